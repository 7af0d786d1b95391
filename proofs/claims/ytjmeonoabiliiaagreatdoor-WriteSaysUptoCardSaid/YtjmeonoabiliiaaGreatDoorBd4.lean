import Derived.Test.YtjmeonoabiliiaaGreatDoorAt
import Derived.Test.YtjmeonoabiliiaaGreatDoorBd2
import Derived.Test.YtjmeonoabiliiaaGreatDoorBd3
set_option linter.unusedVariables false
set_option linter.unusedSimpArgs false
set_option linter.unusedSectionVars false
set_option maxHeartbeats 16000000
set_option maxRecDepth 100000

namespace Go.Proofs.YtjmeonoabiliiaaGreatDoor
open Go Sz
def oT:ai:=⟨147,fun | [.int .u8 c]=>some (.bool (decide (48≤c)&&decide (c≤57))) | _=>none⟩
theorem aR:oT.f=147:=(rfl)
theorem p0 (c:UInt8):oT.S [.int .u8 c.toNat]=some (.bool (cN c)):=by
 have e1:decide (48≤(c.toNat:Int))=decide (48≤c.toNat):=by
  by_cases h:48≤c.toNat
  ·rw[decide_eq_true h,decide_eq_true (show (48:Int)≤c.toNat by omega)]
  ·rw[decide_eq_false h,decide_eq_false (show ¬ (48:Int)≤c.toNat by omega)]
 have e2:decide ((c.toNat:Int)≤57)=decide (c.toNat≤57):=by
  by_cases h:c.toNat≤57
  ·rw[decide_eq_true h,decide_eq_true (show (c.toNat:Int)≤57 by omega)]
  ·rw[decide_eq_false h,decide_eq_false (show ¬ (c.toNat:Int)≤57 by omega)]
 simp only[oT,cN,e1,e2]
theorem uL:az Tryz.prog oT:=fun args v hv=>by
 unfold oT at hv ⊢;dsimp only at hv ⊢;split at hv
 ·rename_i c;cases hv;refine aH (n:=4) (h':=h0) (aG (ss:=[]) (by simp)) ?_ rfl rfl;by_cases h:48≤c
  ·simp[Ov,NQ,h]
  ·simp[Ov,NQ,h]
 ·cases hv
theorem y6 (u:Nat) (h:10≤u):Lib.decDigits u=Lib.decDigits (u / 10)++[UInt8.ofNat (48+u % 10)]:=by
 rw[Lib.decDigits,dif_neg (by omega)]
theorem mN (u:Nat) (h:u < 10):Lib.decDigits u=[UInt8.ofNat (48+u)]:=by
 rw[Lib.decDigits,dif_pos h]
theorem tdiv_neg (m:Nat):(-(m:Int)).tdiv 10=-((m / 10:Nat):Int):=by
 rw[Int.neg_tdiv];rfl
theorem tmod_neg (m:Nat):(-(m:Int)).tmod 10=-((m % 10:Nat):Int):=by
 rw[Int.neg_tmod];rfl
theorem MP (m:Nat):(m:Int).tdiv 10=((m / 10:Nat):Int):=rfl
theorem Ox (m:Nat):(m:Int).tmod 10=((m % 10:Nat):Int):=rfl
theorem Qf (u:Nat) (h:u < 10 ^ 19*10):(Lib.decDigits u).length≤20:=by
 have dl:∀(k u:Nat),u < 10 ^ (k+1)→(Lib.decDigits u).length≤k+1:=by
  intro k
  induction k with
  | zero=>intro u hu;rw[mN u (by omega)];simp
  | succ k ih=>
    intro u hu;by_cases h:u < 10
    ·rw[mN u h];simp
    ·rw[y6 u (by omega)];have:=ih (u / 10) (by rw[Nat.pow_succ] at hu;omega);simp;omega
 exact dl 19 u (by omega)
def lR (k:Nat):ai:=⟨99,fun | [.int .i64 n]=>if n.natAbs < 10 ^ k∧-9223372036854775808≤n∧n < 9223372036854775808 then some (.str (fj n)) else none | _=>none⟩
theorem fm (k:Nat):(lR k).f=99:=(rfl)
theorem pd (k:Nat) (n:Int) (h:n.natAbs < 10 ^ k∧-9223372036854775808≤n∧n < 9223372036854775808):(lR k).S [.int .i64 n]=some (.str (fj n)):=if_pos h
theorem OD (k:Nat) (n:Int) (h:10 ^ k≤n.natAbs):(lR k).S [.int .i64 n]=none:=if_neg (by omega)
theorem wrap_u8 {x:Int} (h1:0≤x) (h2:x < 256):IntKind.u8.wrap x=x:=by
 unfold IntKind.wrap;simp[IntKind.signed,IntKind.bits];omega
theorem Gl (k:Nat) (hp:az Tryz.prog (lR k)):az Tryz.prog (lR (k+1)):=fun args v hv=>by
 unfold lR at hv;dsimp only at hv;split at hv
 ·rename_i n;split at hv
  ·rename_i hc;rcases Nat.lt_or_ge n.natAbs (10 ^ k) with hlt | hge
   ·exact hp _ _ (by rw[pd k n ⟨hlt,hc.2⟩];exact hv)
   cases hv;rw[fm];have hno:=OD k n hge;obtain⟨hc1,hc2,hc3⟩:=hc;refine aH (n:=4) (h':=h0) (aG (ss:=[lR k]) (by simp[hp])) ?_ rfl rfl;obtain⟨m,hm⟩:∃m:Nat,n.natAbs=m:=⟨_,rfl⟩
   have p2:10 ^ (k+1)=10 ^ k*10:=Nat.pow_succ _ _;rw[hm] at hc1 hge;obtain⟨Q,hQ⟩:∃Q,n.tdiv 10=Q:=⟨_,rfl⟩
   obtain⟨R,hR⟩:∃R,n.tmod 10=R:=⟨_,rfl⟩
   have hdl:=Qf m (by omega);rw[mO n hc2 hc3];unfold Lib.itoa;by_cases hn:n < 0
   ·have hnm:n=-(m:Int):=by omega
    have d1:=tdiv_neg m;have d2:=tmod_neg m;rw[←hnm,hQ] at d1;rw[←hnm,hR] at d2;rw[if_pos hn,hm];have n1:(n < 0)=True:=eq_true hn;by_cases h10:m < 10
    ·have n2:(-10 < n)=True:=eq_true (by omega);have w1:IntKind.i64.wrap (48 - n)=48 - n:=wrap_i64 (by omega) (by omega);have w2:IntKind.u8.wrap (48 - n)=48 - n:=wrap_u8 (by omega) (by omega);have w3:(48 - n).toNat=48+m:=by omega
     rw[mN m h10];simp[Dl,RF,hno,fm,n1,n2,w1,w2,w3,gm,putAt,bytesOf]
    ·have n2:(-10 < n)=False:=eq_false (by omega);have hs:=pd k Q ⟨by omega,by omega,by omega⟩;rw[mO _ (by omega) (by omega)] at hs;unfold Lib.itoa at hs;rw[if_pos (by omega),show Q.natAbs=m / 10 by omega] at hs;have w0:IntKind.i64.wrap Q=Q:=wrap_i64 (by omega) (by omega);have w1:IntKind.i64.wrap (48 - R)=48 - R:=wrap_i64 (by omega) (by omega);have w2:IntKind.u8.wrap (48 - R)=48 - R:=wrap_u8 (by omega) (by omega);have w3:(48 - R).toNat=48+m % 10:=by omega
     rw[y6 m (by omega)] at hdl ⊢;have hl:(Lib.decDigits (m / 10)).length+1+1 < 9223372036854775808:=by simp at hdl;omega
     generalize Lib.decDigits (m / 10)=D at *;simp[Dl,RF,hno,fm,n1,n2,hQ,hR,w0,w1,w2,w3,hs,hl,gm,putAt,bytesOf]
   ·have hnm:n=(m:Int):=by omega
    have d1:=MP m;have d2:=Ox m;rw[←hnm,hQ] at d1;rw[←hnm,hR] at d2;rw[if_neg hn,show n.toNat=m by omega];have n1:(n < 0)=False:=eq_false hn;by_cases h10:m < 10
    ·have n2:(n < 10)=True:=eq_true (by omega);have w1:IntKind.i64.wrap (48+n)=48+n:=wrap_i64 (by omega) (by omega);have w2:IntKind.u8.wrap (48+n)=48+n:=wrap_u8 (by omega) (by omega);have w3:(48+n).toNat=48+m:=by omega
     rw[mN m h10];simp[Dl,RF,hno,fm,n1,n2,w1,w2,w3,gm,putAt,bytesOf]
    ·have n2:(n < 10)=False:=eq_false (by omega);have hs:=pd k Q ⟨by omega,by omega,by omega⟩;rw[mO _ (by omega) (by omega)] at hs;unfold Lib.itoa at hs;rw[if_neg (by omega),show Q.toNat=m / 10 by omega] at hs;have w0:IntKind.i64.wrap Q=Q:=wrap_i64 (by omega) (by omega);have w1:IntKind.i64.wrap (48+R)=48+R:=wrap_i64 (by omega) (by omega);have w2:IntKind.u8.wrap (48+R)=48+R:=wrap_u8 (by omega) (by omega);have w3:(48+R).toNat=48+m % 10:=by omega
     rw[y6 m (by omega)] at hdl ⊢;have hl:(Lib.decDigits (m / 10)).length+1 < 9223372036854775808:=by simp at hdl;omega
     generalize Lib.decDigits (m / 10)=D at *;simp[Dl,RF,hno,fm,n1,n2,hQ,hR,w0,w1,w2,w3,hs,hl,gm,putAt,bytesOf]
  ·cases hv
 ·cases hv
theorem GO:az Tryz.prog (lR 0):=fun args v hv=>by
 unfold lR at hv;dsimp only at hv;split at hv
 ·rename_i n;split at hv
  ·rename_i hc;obtain rfl:n=0:=by omega
   cases hv;refine aH (n:=4) (h':=h0) (aG (ss:=[]) (by simp)) ?_ rfl rfl;have w1:IntKind.i64.wrap 48=48:=rfl;have w2:IntKind.u8.wrap 48=48:=rfl;rw[mO 0 (by omega) (by omega)];unfold Lib.itoa;rw[if_neg (by omega),mN _ (by decide)];simp[Dl,RF,w1,w2,gm,putAt,bytesOf,fm]
  ·cases hv
 ·cases hv
theorem Ay:∀k,az Tryz.prog (lR k)
 | 0=>GO
 | k+1=>Gl k (Ay k)
def nj (x:Int):Prop:=-9223372036854775808≤x∧x < 9223372036854775808
instance (x:Int):Decidable (nj x):=inferInstanceAs (Decidable (_∧_))
def kH (x:Int):Int:=if nj x then x else 0
def nE (x:Int):Int:=if nj x then 0 else 3
def DV:ai:=⟨177,fun | [.str op,.int .i64 a,.int .i64 b]=>if nj a∧nj b then (if op=[42]∧b=10 then some (.tuple [.int .i64 (kH (a*10)),.int .i64 (nE (a*10))]) else if op=[43] then some (.tuple [.int .i64 (kH (a+b)),.int .i64 (nE (a+b))]) else none) else none | _=>none⟩
theorem hJ:DV.f=177:=(rfl)
theorem T8:nj 10:=by unfold nj;omega
theorem MN (a:Int) (h:nj a):DV.S [.str [42],.int .i64 a,.int .i64 10]=some (.tuple [.int .i64 (kH (a*10)),.int .i64 (nE (a*10))]):=by
 simp[DV,h,T8]
theorem MT (a b:Int) (h:nj a) (h2:nj b):DV.S [.str [43],.int .i64 a,.int .i64 b]=some (.tuple [.int .i64 (kH (a+b)),.int .i64 (nE (a+b))]):=by
 simp[DV,h,h2]
theorem yJ (x:Int):nj (IntKind.i64.wrap x)∧∃k:Int,IntKind.i64.wrap x=x+k*18446744073709551616:=by
 unfold nj;rw[IntKind.wrap_i64];refine⟨by omega,-((x+9223372036854775808) / 18446744073709551616),by omega⟩
theorem tdiv_cases (p:Int):(0≤p∧p.tdiv 10=p / 10)∨(p < 0∧p.tdiv 10=-((-p) / 10)):=by
 by_cases h:0≤p
 ·exact .inl ⟨h,Int.tdiv_eq_ediv_of_nonneg h⟩
 ·refine .inr ⟨by omega,?_⟩;have:=Int.neg_tdiv (-p) 10;rw[Int.neg_neg] at this;rw[this,Int.tdiv_eq_ediv_of_nonneg (by omega)]
theorem Qp:az Tryz.prog DV:=fun args v hv=>by
 unfold DV at hv ⊢;dsimp only at hv ⊢;split at hv
 ·rename_i op a b;split at hv
  ·rename_i hr;obtain⟨ha,hb⟩:=hr;split at hv
   ·rename_i hop;obtain⟨rfl,rfl⟩:=hop;cases hv;refine aH (n:=5) (h':=h0) (aG (ss:=[]) (by simp)) ?_ rfl rfl;by_cases h0a:a=0
    ·subst h0a;simp[mu,uT,kH,nE,nj]
    obtain⟨⟨b1,b2⟩,k,hk⟩:=yJ (a*10);obtain⟨⟨b3,b4⟩,k2,hk2⟩:=yJ ((IntKind.i64.wrap (a*10)).tdiv 10);have ht:=tdiv_cases (IntKind.i64.wrap (a*10));have w2:IntKind.i64.wrap ((IntKind.i64.wrap (a*10)).tdiv 10)=(IntKind.i64.wrap (a*10)).tdiv 10:=wrap_i64 (by omega) (by omega);have hm:a=-1∨a≠-1:=by omega
    unfold nj at ha;by_cases hf:nj (a*10)
    ·have w1:IntKind.i64.wrap (a*10)=a*10:=wrap_i64 hf.1 hf.2;rw[w1] at ht w2;have hq:(a*10).tdiv 10=a:=by omega
     rw[hq] at w2;rcases hm with hm | hm
     ·subst hm;have w3:IntKind.i64.wrap (-10)=-10:=rfl;have w4:(-10:Int).tdiv 10=-1:=rfl;have w5:IntKind.i64.wrap (-1)=-1:=rfl;simp[mu,uT,SH,Rf,kH,nE,nj,w3,w4,w5]
     ·simp[mu,uT,kH,nE,h0a,hm,hf,w1,w2,hq]
    ·have hne:¬ (IntKind.i64.wrap (a*10)).tdiv 10=a:=fun e=>hf (by unfold nj at hf ⊢;omega)
     rcases hm with hm | hm
     ·exact absurd (by rw[hm];unfold nj;omega) hf
     ·generalize hs:IntKind.i64.wrap (a*10)=p at *;simp[mu,uT,kH,nE,h0a,hm,hf,hs,w2,hne]
   ·split at hv
    ·rename_i hop;subst hop;cases hv;refine aH (n:=5) (h':=h0) (aG (ss:=[]) (by simp)) ?_ rfl rfl;obtain⟨⟨b1,b2⟩,k,hk⟩:=yJ (a+b);have hi:nj (a+b)↔IntKind.i64.wrap (a+b)=a+b:=⟨fun h=>wrap_i64 h.1 h.2,fun h=>by rw[←h];exact⟨b1,b2⟩⟩
     unfold nj at ha hb;generalize hs:IntKind.i64.wrap (a+b)=p at *;by_cases ga:0≤a
     ·by_cases gb:0≤b
      ·by_cases hf:nj (a+b)
       ·have e:=hi.1 hf;have c1:(p < 0)=False:=eq_false (by omega);have c2:(a < 0)=False:=eq_false (by omega);simp[mu,uT,kH,nE,hf,ga,gb,hs,c1,c2];exact e
       ·have c1:(p < 0)=True:=eq_true (by unfold nj at hf;omega);simp[mu,uT,kH,nE,hf,ga,gb,hs,c1]
      ·have hf:nj (a+b):=by unfold nj;omega
       obtain rfl:=hi.1 hf;have c2:(a < 0)=False:=eq_false (by omega);simp[mu,uT,kH,nE,hf,ga,gb,hs,c2]
     ·have c2:(a < 0)=True:=eq_true (by omega);by_cases gb:0≤b
      ·have hf:nj (a+b):=by unfold nj;omega
       obtain rfl:=hi.1 hf;have c3:(b < 0)=False:=eq_false (by omega);simp[mu,uT,kH,nE,hf,ga,gb,hs,c2,c3]
      ·have c3:(b < 0)=True:=eq_true (by omega);by_cases hf:nj (a+b)
       ·have e:=hi.1 hf;have c1:(0≤p)=False:=eq_false (by omega);simp[mu,uT,kH,nE,hf,ga,gb,hs,c1,c2,c3];exact e
       ·have c1:(0≤p)=True:=eq_true (by unfold nj at hf;omega);simp[mu,uT,kH,nE,hf,ga,gb,hs,c1,c2,c3]
    ·cases hv
  ·cases hv
 ·cases hv
def xj (neg:Bool) (c:UInt8):Int:=if neg then -((c.toNat:Int) - 48) else (c.toNat:Int) - 48
def vh (neg:Bool):Int→List UInt8→Option Int
 | n,[]=>some n
 | n,c::r=>if nj (n*10)∧nj (n*10+xj neg c) then vh neg (n*10+xj neg c) r else none
theorem EK:∀(l:List UInt8) (v:Nat),bJ l=true→v≤9223372036854775807→vh false v l=if iO v l≤9223372036854775807 then some (iO v l:Int) else none
 | [],v,_,h=>by rw[jf,if_pos h];rfl
 | c::r,v,hd,h=>by
   simp only[bJ,cN,Bool.and_eq_true,decide_eq_true_eq] at hd;have hg:=xb r (v*10+(c.toNat - 48));have e:(v:Int)*10+xj false c=((v*10+(c.toNat - 48):Nat):Int):=by unfold xj;rw[if_neg (by simp)];omega
   rw[fW];unfold vh;rw[e];unfold nj;by_cases hx:v*10+(c.toNat - 48)≤9223372036854775807
   ·rw[if_pos (by omega)];exact EK r _ hd.2 hx
   ·rw[if_neg (by omega),if_neg (by omega)]
theorem E2:∀(l:List UInt8) (v:Nat),bJ l=true→v≤9223372036854775808→vh true (-(v:Int)) l=if iO v l≤9223372036854775808 then some (-(iO v l:Int)) else none
 | [],v,_,h=>by rw[jf,if_pos h];rfl
 | c::r,v,hd,h=>by
   simp only[bJ,cN,Bool.and_eq_true,decide_eq_true_eq] at hd;have hg:=xb r (v*10+(c.toNat - 48));have e:-(v:Int)*10+xj true c=-((v*10+(c.toNat - 48):Nat):Int):=by unfold xj;rw[if_pos rfl];omega
   rw[fW];unfold vh;rw[e];unfold nj;by_cases hx:v*10+(c.toNat - 48)≤9223372036854775808
   ·rw[if_pos (by omega)];exact E2 r _ hd.2 hx
   ·rw[if_neg (by omega),if_neg (by omega)]
theorem oA (M:Nat) (hM:M≤18446744073709551615):∀(l:List UInt8) (acc:Nat),bJ l=true→acc≤M→M < iO acc l→Lib.parseUintM M acc l=.range
 | [],acc,_,h1,h2=>by rw[jf] at h2;omega
 | c::r,acc,h,h1,hv=>by
   simp only[bJ,cN,Bool.and_eq_true,decide_eq_true_eq] at h;rw[fW] at hv;unfold Lib.parseUintM;rw[if_pos h.1];split
   ·rfl
   ·split
    ·rfl
    ·exact oA M hM r _ h.2 (by omega) hv
theorem yA (r:List UInt8) (hr:r≠[]) (hd:bJ r=true) (hv:¬ iO 0 r≤9223372036854775808):Lib.parseIntB 64 (45::r)=.range:=by
 unfold Lib.parseIntB Lib.parseUintB;simp only[show (45:UInt8).toNat=45 from rfl,or_true,if_true,hr,if_false];rw[show (2 ^ 64 - 1:Nat)=18446744073709551615 by decide];by_cases h:iO 0 r≤18446744073709551615
 ·rw[lz 18446744073709551615 (Nat.le_refl _) r 0 hd h];simp only[not_true,false_and,if_false,true_and];rw[if_pos (by omega)]
 ·rw[oA 18446744073709551615 (Nat.le_refl _) r 0 hd (by omega) (by omega)]
theorem zF (s:List UInt8) (hr:s≠[]) (hd:bJ s=true) (hv:¬ iO 0 s≤9223372036854775807):Lib.parseIntB 64 s=.range:=by
 cases s with
 | nil=>exact absurd rfl hr
 | cons c r=>
   have hc:48≤c.toNat∧c.toNat≤57:=by
    simp only[bJ,cN,Bool.and_eq_true,decide_eq_true_eq] at hd;exact hd.1
   unfold Lib.parseIntB Lib.parseUintB;simp only[show (c.toNat=43)=False from eq_false (by omega),show (c.toNat=45)=False from eq_false (by omega),or_false,if_false,hr];rw[show (2 ^ 64 - 1:Nat)=18446744073709551615 by decide];by_cases h:iO 0 (c::r)≤18446744073709551615
   ·rw[lz 18446744073709551615 (Nat.le_refl _) (c::r) 0 hd h];simp only[not_false_iff,true_and,false_and,if_false];rw[if_pos (by omega)]
   ·rw[oA 18446744073709551615 (Nat.le_refl _) (c::r) 0 hd (by omega) (by omega)]
theorem G1 (r:List UInt8):fX (45::r)=if r=[] then ((0:Int),(2:Int)) else if bJ r=false then (0,2) else match vh true 0 r with | some v=>(v,0) | none=>(0,3):=by
 unfold fX;rw[yT];dsimp only;by_cases hr:r=[]
 ·rw[if_pos hr,if_pos hr]
 rw[if_neg hr,if_neg hr]
 cases hd:bJ r with
 | false=>rfl
 | true=>
   rw[if_neg (by simp),if_neg (by simp)];have e:=E2 r 0 hd (by omega);rw[show (-((0:Nat):Int))=0 by rfl] at e;rw[e];by_cases hv:iO 0 r≤9223372036854775808
   ·rw[if_pos hv,Ks r hr hd hv]
   ·rw[if_neg hv,yA r hr hd hv]
theorem G7 (c:UInt8) (r:List UInt8) (hc:c≠45):fX (c::r)=if bJ (c::r)=false then ((0:Int),(2:Int)) else match vh false 0 (c::r) with | some v=>(v,0) | none=>(0,3):=by
 unfold fX;rw[zq c r hc];dsimp only;rw[if_neg (by simp)]
 cases hd:bJ (c::r) with
 | false=>rfl
 | true=>
   rw[if_neg (by simp),if_neg (by simp)];have e:=EK (c::r) 0 hd (by omega);rw[show (((0:Nat):Int))=0 by rfl] at e;rw[e];by_cases hv:iO 0 (c::r)≤9223372036854775807
   ·rw[if_pos hv,JI (c::r) (by simp) hd hv]
   ·rw[if_neg hv,zF (c::r) (by simp) hd hv]
def xy:List ai:=[oT,DV]
theorem TX:∀s ∈ xy,az Tryz.prog s:=by simp[xy,uL,Qp]
theorem vD (n:Nat) (s:List UInt8) (i:Int) (neg:Bool) (hl:s.length < 1000000000):∀(post pre:List UInt8) (m:Nat),s=pre++post→post.length < m→
 er 0 0 (aT (ak (aw (a8 xy) (n+1)) (n+1) tj) gO 0 m (PM (.str s) (.int .i64 i) (.bool neg) (.int .i64 pre.length)) ⟨0,[],0,0⟩)=
  some (if bJ post then .exit 0 else .ret,if bJ post then FM 75 [(0,.str s),(4,.int .i64 i),(5,.bool neg)] else FM 75 [(2,.int .i64 0),(3,.int .i64 2)],⟨0,[],0,0⟩)
 | [],pre,m+1,e,_=>by
   simp at e;subst e;rw[ae];simp[tj,gO,bJ]
 | c::post,pre,m+1,e,hm=>by
   have h1:s[pre.length]? =some c:=by rw[e];simp
   have hpl:pre.length < s.length:=by rw[e];simp
   have h3:IntKind.i64.wrap ((pre.length:Int)+1)=(pre.length:Int)+1:=wrap_i64 (by omega) (by omega);have h6:((pre.length:Int) < (s.length:Int))=True:=eq_true (by omega);have ih:=vD n s i neg hl post (pre++[c]) m (by simp[e]) (by rw[List.length_cons] at hm;omega);simp only[List.length_append,List.length_cons,List.length_nil,Nat.zero_add,Int.natCast_add,Int.natCast_one] at ih;have hd:=p0 c;rw[ae]
   cases hc:cN c with
   | false=>
     rw[hc] at hd;simp[tj,gO,h1,h3,h6,hd,hc,bJ,xy,aR,hJ]
   | true=>
     rw[hc] at hd;simp only[xy] at ih;simp[tj,gO,h1,h3,h6,hd,hc,bJ,xy,aR,hJ];exact ih
def Px:Option Int→Ex | some _=>.exit 2 | none=>.ret
def Pt:Option Int→List AV | some v=>FM 75 [(7,.int .i64 v)] | none=>FM 75 [(2,.int .i64 0),(3,.int .i64 3)]
theorem yd:nj 0:=by unfold nj;omega
theorem yE (n:Nat) (s:List UInt8) (neg:Bool) (hl:s.length < 1000000000):∀(post pre:List UInt8) (v:Int) (m:Nat),s=pre++post→bJ post=true→nj v→post.length < m→
 er 0 0 (aT (ak (aw (a8 xy) (n+1)) (n+1) kD) fE 0 m (QZ (.str s) (.int .i64 pre.length) (.bool neg) (.int .i64 v)) ⟨0,[],0,0⟩)=
  some (Px (vh neg v post),Pt (vh neg v post),⟨0,[],0,0⟩)
 | [],pre,v,m+1,e,_,_,_=>by
   simp at e;subst e;rw[ae];simp[kD,fE,vh,Px,Pt]
 | c::post,pre,v,m+1,e,hd,hv,hm=>by
   simp only[bJ,cN,Bool.and_eq_true,decide_eq_true_eq] at hd;obtain⟨hc,hd⟩:=hd;have h1:s[pre.length]? =some c:=by rw[e];simp
   have hpl:pre.length < s.length:=by rw[e];simp
   have h3:IntKind.i64.wrap ((pre.length:Int)+1)=(pre.length:Int)+1:=wrap_i64 (by omega) (by omega);have h6:((pre.length:Int) < (s.length:Int))=True:=eq_true (by omega);have w1:IntKind.u8.wrap ((c.toNat:Int) - 48)=(c.toNat:Int) - 48:=wrap_u8 (by omega) (by omega);have w2:IntKind.i64.wrap ((c.toNat:Int) - 48)=(c.toNat:Int) - 48:=wrap_i64 (by omega) (by omega);have w3:IntKind.i64.wrap (0 - ((c.toNat:Int) - 48))=0 - ((c.toNat:Int) - 48):=wrap_i64 (by omega) (by omega);have q1:=MN v hv;have hdd:nj (xj neg c):=by unfold nj xj;split<;>omega
   have hfv:nj (kH (v*10)):=by
    unfold kH;split
    ·assumption
    ·exact yd
   have q2:=MT (kH (v*10)) (xj neg c) hfv hdd;have hdg:xj neg c=if neg then 0 - ((c.toNat:Int) - 48) else (c.toNat:Int) - 48:=by unfold xj;split<;>omega
   unfold vh;rw[ae];by_cases k1:nj (v*10)
   ·have e1:kH (v*10)=v*10:=if_pos k1;have e2:nE (v*10)=0:=if_pos k1;rw[e1,e2] at q1;rw[e1] at q2;by_cases k2:nj (v*10+xj neg c)
    ·have ih:=yE n s neg hl post (pre++[c]) (v*10+xj neg c) m (by simp[e]) hd k2 (by rw[List.length_cons] at hm;omega);simp only[List.length_append,List.length_cons,List.length_nil,Nat.zero_add,Int.natCast_add,Int.natCast_one,xy] at ih;rw[if_pos ⟨k1,k2⟩];have e3:kH (v*10+xj neg c)=v*10+xj neg c:=if_pos k2;have e4:nE (v*10+xj neg c)=0:=if_pos k2;rw[e3,e4] at q2;generalize v*10+xj neg c=x at *;generalize v*10=y at *;generalize xj neg c=z at *
     cases neg with
     | true=>
       simp only[if_true] at hdg;subst hdg;simp[kD,fE,h1,h3,h6,w1,w2,w3,q1,q2,xy,aR,hJ,-Int.zero_sub];exact ih
     | false=>
       simp only[Bool.false_eq_true,if_false] at hdg;subst hdg;simp[kD,fE,h1,h3,h6,w1,w2,w3,q1,q2,xy,aR,hJ];exact ih
    ·rw[if_neg (fun h=>k2 h.2)];have e4:nE (v*10+xj neg c)=3:=if_neg k2;rw[e4] at q2;generalize kH (v*10+xj neg c)=x at *;generalize v*10=y at *;generalize xj neg c=z at *
     cases neg with
     | true=>
       simp only[if_true] at hdg;subst hdg;simp[kD,fE,h1,h3,h6,w1,w2,w3,q1,q2,xy,aR,hJ,Px,Pt,-Int.zero_sub]
     | false=>
       simp only[Bool.false_eq_true,if_false] at hdg;subst hdg;simp[kD,fE,h1,h3,h6,w1,w2,w3,q1,q2,xy,aR,hJ,Px,Pt]
   ·rw[if_neg (fun h=>k1 h.1)];have e2:nE (v*10)=3:=if_neg k1;rw[e2] at q1;generalize nE (kH (v*10)+xj neg c)=u at *;generalize kH (kH (v*10)+xj neg c)=x at *;generalize kH (v*10)=y at *;generalize xj neg c=z at *
    cases neg with
    | true=>
      simp only[if_true] at hdg;subst hdg;simp[kD,fE,h1,h3,h6,w1,w2,w3,q1,q2,xy,aR,hJ,Px,Pt,-Int.zero_sub]
    | false=>
      simp only[Bool.false_eq_true,if_false] at hdg;subst hdg;simp[kD,fE,h1,h3,h6,w1,w2,w3,q1,q2,xy,aR,hJ,Px,Pt]
def tI:ai:=⟨148,fun | [.str s]=>if s.length < 1000000000 then some (.tuple [.int .i64 (fX s).1,.int .i64 (fX s).2]) else none | _=>none⟩
theorem bh:tI.f=148:=(rfl)
theorem HJ (s:List UInt8) (h:s.length < 1000000000):tI.S [.str s]=some (.tuple [.int .i64 (fX s).1,.int .i64 (fX s).2]):=if_pos h
theorem GG:az Tryz.prog tI:=fun args v hv=>by
 unfold tI at hv ⊢;dsimp only at hv ⊢;split at hv
 ·rename_i s;split at hv
  ·rename_i hl;cases hv;refine aH (n:=s.length+5) (h':=h0) (aG TX) ?_ rfl rfl
   cases s with
   | nil=>
     have:fX []=(0,2):=by decide
     rw[this];simp[oH,c148,xy,aR,hJ]
   | cons c r=>
     by_cases hc:c=45
     ·subst hc;rw[G1];have n1:((r.length:Int)+1≤1)=(r=[]):=propext ⟨fun h=>List.eq_nil_of_length_eq_zero (by omega),fun h=>by subst h;simp⟩;have t1:((0:Int) < (r.length:Int)+1)=True:=eq_true (by omega);by_cases hr:r=[]
      ·subst hr;simp[oH,c148,xy,aR,hJ]
      ·have sc:=vD (r.length+4) (45::r) 1 true hl r [45] (r.length+5) rfl (by omega);have nm:=yE (r.length+4) (45::r) true hl r [45] 0 (r.length+5) rfl;simp only[List.length_cons,List.length_nil,Nat.zero_add,Int.natCast_one,xy,gO,fE] at sc nm;rw[if_neg hr]
       cases hd:bJ r with
       | false=>
         rw[hd] at sc;simp only[Bool.false_eq_true,if_false] at sc;simp[oH,c148,gO,xy,aR,hJ,n1,t1,hr,sc]
       | true=>
         rw[hd] at sc;simp only[if_true] at sc;have nm:=nm hd yd (by omega)
         cases hx:vh true 0 r with
         | none=>
           rw[hx] at nm;simp only[Px,Pt] at nm;simp[oH,c148,gO,fE,xy,aR,hJ,n1,t1,hr,sc,nm]
         | some x=>
           rw[hx] at nm;simp only[Px,Pt] at nm;simp[oH,c148,gO,fE,xy,aR,hJ,n1,t1,hr,sc,nm]
     ·rw[G7 c r hc];have n2:((c.toNat:Int)=45)=False:=eq_false fun h=>hc (UInt8.toNat_inj.1 (by show c.toNat=45;omega))
      have n1:((r.length:Int)+1≤0)=False:=eq_false (by omega);have t1:((0:Int) < (r.length:Int)+1)=True:=eq_true (by omega);have sc:=vD (r.length+4) (c::r) 0 false hl (c::r) [] (r.length+5) rfl (by simp);have nm:=yE (r.length+4) (c::r) false hl (c::r) [] 0 (r.length+5) rfl;simp only[List.length_nil,show ((0:Nat):Int)=0 from rfl,xy,gO,fE] at sc nm
      cases hd:bJ (c::r) with
      | false=>
        rw[hd] at sc;simp only[Bool.false_eq_true,if_false] at sc;simp[oH,c148,gO,xy,aR,hJ,n1,n2,t1,sc]
      | true=>
        rw[hd] at sc;simp only[if_true] at sc;have nm:=nm hd yd (by simp)
        cases hx:vh false 0 (c::r) with
        | none=>
          rw[hx] at nm;simp only[Px,Pt] at nm;simp[oH,c148,gO,fE,xy,aR,hJ,n1,n2,t1,sc,nm]
        | some x=>
          rw[hx] at nm;simp only[Px,Pt] at nm;simp[oH,c148,gO,fE,xy,aR,hJ,n1,n2,t1,sc,nm]
  ·cases hv
 ·cases hv
def tO:ai:=Gd 144 iK
theorem bf:tO.f=144:=(rfl)
theorem zc (c:UInt8):tO.S [.int .u8 c.toNat]=some (.bool (iK c)):=im _ _ c
theorem xP:az Tryz.prog tO:=lB fun c=>by
 refine aH (n:=4) (h':=h0) (aG (ss:=[]) (by simp)) ?_ rfl rfl;unfold iK;have e97:((97:Int)≤(c.toNat:Int))=(97≤c.toNat):=propext ⟨fun h=>by omega,fun h=>by omega⟩;have e122:((c.toNat:Int)≤122)=(c.toNat≤122):=propext ⟨fun h=>by omega,fun h=>by omega⟩;by_cases h1:97≤c.toNat
 ·by_cases h2:c.toNat≤122
  ·simp[G9,JC,e97,e122,h1,h2]
  ·simp[G9,JC,e97,e122,h1,h2]
 ·simp[G9,JC,e97,e122,h1]
def sR:ai:=Gd 145 ix
theorem bd:sR.f=145:=(rfl)
theorem xE (c:UInt8):sR.S [.int .u8 c.toNat]=some (.bool (ix c)):=im _ _ c
theorem x5:az Tryz.prog sR:=lB fun c=>by
 refine aH (n:=4) (h':=h0) (aG (ss:=[]) (by simp)) ?_ rfl rfl;unfold ix;have e65:((65:Int)≤(c.toNat:Int))=(65≤c.toNat):=propext ⟨fun h=>by omega,fun h=>by omega⟩;have e90:((c.toNat:Int)≤90)=(c.toNat≤90):=propext ⟨fun h=>by omega,fun h=>by omega⟩;have e:((c.toNat:Int)=95)=(c.toNat=95):=propext ⟨fun h=>by omega,fun h=>by omega⟩;by_cases h1:65≤c.toNat
 ·by_cases h2:c.toNat≤90
  ·simp[yZ,c145,e65,e90,h1,h2]
  ·by_cases h3:c.toNat=95
   ·simp[yZ,c145,e65,e90,h1,h2,h3,e]
   ·simp[yZ,c145,e65,e90,h1,h2,h3,e]
 ·by_cases h3:c.toNat=95
  ·simp[yZ,c145,e65,e90,h1,h3,e]
  ·simp[yZ,c145,e65,e90,h1,h3,e]
def B9:ai:=Gd 146 fP
theorem bE:B9.f=146:=(rfl)
theorem K8 (c:UInt8):B9.S [.int .u8 c.toNat]=some (.bool (fP c)):=im _ _ c
theorem La:az Tryz.prog B9:=lB fun c=>by
 refine aH (n:=4) (h':=h0) (aG (ss:=[tO,sR,oT]) (by simp[xP,x5,uL])) ?_ rfl rfl;have c1:=zc c;have c2:=xE c;have c3:=p0 c;unfold fP;cases h1:iK c<;>cases h2:ix c<;>cases h3:cN c<;>rw[h1] at c1<;>rw[h2] at c2<;>rw[h3] at c3<;>simp[TJ,c146,c1,c2,c3,bf,bd,aR]
def ua:ai:=Gd 109 iz
theorem bj:ua.f=109:=(rfl)
theorem rH (c:UInt8):ua.S [.int .u8 c.toNat]=some (.bool (iz c)):=im _ _ c
theorem xF:az Tryz.prog ua:=lB fun c=>by
 refine aH (n:=4) (h':=h0) (aG (ss:=[]) (by simp)) ?_ rfl rfl;unfold iz;have e:∀k:Nat,((c.toNat:Int)=(k:Int))=(c.toNat=k):=fun k=>propext ⟨fun h=>by omega,fun h=>by omega⟩
 have e1:=e 32;have e2:=e 9;have e3:=e 10;have e4:=e 13;by_cases h1:c.toNat=32
 ·simp[yx,c109,h1]
 ·by_cases h2:c.toNat=9
  ·simp[yx,c109,h2]
  ·by_cases h3:c.toNat=10
   ·simp[yx,c109,h3]
   ·by_cases h4:c.toNat=13
    ·simp[yx,c109,h4]
    ·rw[eq_false h1] at e1;rw[eq_false h2] at e2;rw[eq_false h3] at e3;rw[eq_false h4] at e4;simp[yx,c109,h1,h2,h3,h4,show ((c.toNat:Int)=32)=False from e1,show ((c.toNat:Int)=9)=False from e2,show ((c.toNat:Int)=10)=False from e3,show ((c.toNat:Int)=13)=False from e4]
def R8 (b:Bool) (R:Option (Ex×List AV×aa)):Prop:=
 (b=true∧R=some (.ret,FM 16 [(2,.bool true)],⟨0,[],0,0⟩))∨(b=false∧R=some (.exit 0,FM 16 [],⟨0,[],0,0⟩))
theorem AP (n:Nat) (c:UInt8) (L:List UInt8) (hL:L.length < 1000000000):∀(post pre:List UInt8) (m:Nat),L=pre++post→post.length < m→
 R8 (post.any fun d=>decide (d.toNat=c.toNat)) (er 0 0 (aT (ak (aw (a8 []) (n+1)) (n+1) uq) ma 0 m (Iu (.int .u8 c.toNat) (.str L) (.int .i64 pre.length)) ⟨0,[],0,0⟩))
 | _,_,0,_,h=>by omega
 | [],pre,m+1,hs,_=>by
   rw[ae];rw[List.append_nil] at hs;subst hs;exact .inr ⟨rfl,by simp[uq,ma]⟩
 | d::r,pre,m+1,hs,hm=>by
   rw[ae];have hpl:pre.length+r.length+1=L.length:=by rw[hs];simp;omega
   have h1:L[pre.length]? =some d:=by rw[hs];simp
   have h3:IntKind.i64.wrap ((pre.length:Int)+1)=(pre.length:Int)+1:=wrap_i64 (by omega) (by omega);have h6:((pre.length:Int) < (L.length:Int))=True:=eq_true (by omega);rw[List.any_cons];by_cases h:d.toNat=c.toNat
   ·have h':((d.toNat:Int)=(c.toNat:Int))=True:=eq_true (by omega);rw[decide_eq_true h];exact .inl ⟨rfl,by simp[uq,ma,h1,h6,h']⟩
   ·have h':((d.toNat:Int)=(c.toNat:Int))=False:=eq_false (by omega);rw[decide_eq_false h,Bool.false_or];have ih:=AP n c L hL r (pre++[d]) m (by rw[hs];simp) (by simp at hm;omega);simp only[List.length_append,List.length_cons,List.length_nil,Nat.zero_add,Int.natCast_add,Int.natCast_one] at ih;simp[uq,ma,h1,h3,h6,h'];exact ih
def Jc:ai:=Gd 151 rK
theorem cn:Jc.f=151:=(rfl)
theorem Et (c:UInt8):Jc.S [.int .u8 c.toNat]=some (.bool (rK c)):=im _ _ c
theorem Mh:az Tryz.prog Jc:=lB fun c=>by
 refine aH (n:=32) (h':=h0) (aG (ss:=[]) (by simp)) ?_ rfl rfl;have lp:=AP 30 c z7 (by decide) z7 [] 31 rfl (by decide);simp only[Iu,ma,z7,List.length_nil,Int.natCast_zero] at lp;unfold rK;simp only[z7];generalize (List.any _ _:Bool)=b at *;rcases lp with⟨e1,e2⟩ | ⟨e1,e2⟩
 ·subst e1;simp[N1,ON,ma,e2]
 ·subst e1;simp[N1,ON,ma,e2]
noncomputable def vF:ai:=⟨150,fun
 | [.str s,.int .i64 i]=>if s.length < 1000000000∧0≤i∧i≤s.length then some (.bool (kv (s.drop i.toNat))) else none
 | _=>none⟩
theorem bD:vF.f=150:=(rfl)
theorem Be (s:List UInt8) (k:Nat) (hl:s.length < 1000000000) (hk:k≤s.length):vF.S [.str s,.int .i64 k]=some (.bool (kv (s.drop k))):=by
 simp only[vF];rw[if_pos ⟨hl,by omega,by omega⟩,Int.toNat_natCast]
theorem Lr:az Tryz.prog vF:=fun args v hv=>by
 unfold vF at hv ⊢;dsimp only at hv ⊢;split at hv
 ·rename_i s i;split at hv
  ·rename_i hc;cases hv;obtain⟨k,rfl⟩:∃k:Nat,i=(k:Int):=⟨i.toNat,by omega⟩
   rw[Int.toNat_natCast];refine aH (n:=5) (h':=h0) (aG (ss:=[ua]) (by simp[xF])) ?_ (by simp[AV.refs]) (by simp[AV.refs,AV.af]);have h3:IntKind.i64.wrap ((k:Int)+1)=(k:Int)+1:=wrap_i64 (by omega) (by omega);by_cases hk:k=s.length
   ·have h6:((k:Int) < (s.length:Int))=False:=eq_false (by omega);have hd:s.drop k=[]:=by rw[hk];exact List.drop_length
    rw[hd];simp[uY,Cp,h6,kv,bj]
   obtain⟨c,h1,hd⟩:=dR (s:=s) (k:=k) (by omega);have h6:((k:Int) < (s.length:Int))=True:=eq_true (by omega);rw[hd];by_cases h46:c.toNat=46
   ·have e1:((c.toNat:Int)=46)=True:=eq_true (by omega);by_cases hlast:k+1=s.length
    ·have hn:s.drop (k+1)=[]:=by rw[hlast];exact List.drop_length
     have e2:((k:Int)+1=(s.length:Int))=True:=eq_true (by omega);rw[hn,uX,decide_eq_true h46];simp[uY,Cp,h1,h3,h6,e1,e2,bj]
    ·obtain⟨d,h2,hd2⟩:=dR (s:=s) (k:=k+1) (by omega);have e2:((k:Int)+1=(s.length:Int))=False:=eq_false (by omega);have c1:=rH d;have h2':((k:Int)+1).toNat=k+1:=by omega
     have h2'':((0:Int)≤(k:Int)+1)=True:=eq_true (by omega);rw[hd2,vB,decide_eq_true h46]
     cases hb:iz d with
     | true=>
       rw[hb] at c1;simp[uY,Cp,h1,h2,h2',h2'',h3,h6,e1,e2,c1,bj]
     | false=>
       rw[hb] at c1;by_cases h37:d.toNat=37
       ·have e3:((d.toNat:Int)=37)=True:=eq_true (by omega);rw[decide_eq_true h37];simp[uY,Cp,h1,h2,h2',h2'',h3,h6,e1,e2,e3,c1,bj]
       ·have e3:((d.toNat:Int)=37)=False:=eq_false (by omega);rw[decide_eq_false h37];simp[uY,Cp,h1,h2,h2',h2'',h3,h6,e1,e2,e3,c1,bj]
   ·have e1:((c.toNat:Int)=46)=False:=eq_false (by omega);rw[Az h46];simp[uY,Cp,h1,h3,h6,e1,bj]
  ·cases hv
 ·cases hv
theorem px {s:List UInt8} {X:Int} {k:Nat} {c:UInt8} (hX:X=(k:Int)) (hc:s[k]? =some c):sliceB s.length (some (.int .i64 X)) (some (.int .i64 (X+1)))=some (k,k+1)∧(s.take (k+1)).drop k=[c]:=by
 subst hX;obtain⟨hk,rfl⟩:=List.getElem?_eq_some_iff.1 hc;refine⟨?_,by rw[List.drop_take,Nat.add_sub_cancel_left,List.drop_eq_getElem_cons hk];rfl⟩;have a1:(0:Int)≤(k:Int)+1∧(k:Int)+1≤(s.length:Int):=by omega
 have a2:(k:Int)≤(k:Int)+1:=by omega
 have a3:((k:Int)+1).toNat=k+1:=by omega
 simp[sliceB,a1,a2,a3]
def UY (q:Option (List UInt8)×Nat) (q0:Nat) (R:Option (Ex×List AV×aa)):Prop:=
 ∃md',(∃t,q.1=some t∧((t.length≤64∧R=some (.ret,FM 102 [(4,.ptr 0 0),(5,.int .i64 (q0+q.2:Nat)),(6,.int .i64 0)],⟨1,[.row (bl 2 t 0)],0,md'⟩))∨
  (64 < t.length∧R=some (.ret,FM 102 [(4,.ptr 0 0),(5,.int .i64 0),(6,.int .i64 3)],⟨1,[.row (bl 0 [] 0)],0,md'⟩))))∨
   (q.1=none∧R=some (.ret,FM 102 [(4,.ptr 0 0),(5,.int .i64 0),(6,.int .i64 2)],⟨1,[.row (bl 0 [] 0)],0,md'⟩))∨
   (q.1=none∧R=some (.exit 0,FM 102 [(4,.ptr 0 0)],⟨1,[.row (bl 0 [] 0)],0,md'⟩))
theorem pD (n:Nat) (s:List UInt8) (hl:s.length < 1000000000) (q0:Nat):∀(f:Nat) (acc:List UInt8) (j m md:Nat),acc.length≤j→q0+j≤s.length→s.length - (q0+j) < f→f≤m→
 UY (fg f (s.drop (q0+j)) acc j) q0 (er 1 0 (aT (ak (aw (a8 []) (n+1)) (n+1) eJ) dG 1 m (Cz (.str s) (.ptr 0 0) (.str acc) (.int .i64 (q0+j:Nat))) ⟨1,[.row (bl 0 [] 0)],1,md⟩))
 | 0,acc,j,m,md,haj,hk,h,_=>by omega
 | f+1,acc,j,0,md,haj,_,_,h=>by omega
 | f+1,acc,j,m+1,md,haj,hk,hf0,hm=>by
   rw[ae];by_cases he:q0+j=s.length
   ·have hd:s.drop (q0+j)=[]:=by rw[he];exact List.drop_length
    have h6:((q0:Int)+(j:Int) < (s.length:Int))=False:=eq_false (by omega);rw[hd,xn];refine⟨md,.inr (.inr ⟨rfl,?_⟩)⟩;simp[eJ,dG,h6]
   ·obtain⟨c,h1,hd⟩:=dR (s:=s) (k:=q0+j) (by omega);have h6:((q0:Int)+(j:Int) < (s.length:Int))=True:=eq_true (by omega);have h3:IntKind.i64.wrap ((q0:Int)+(j:Int)+1)=(q0:Int)+(j:Int)+1:=wrap_i64 (by omega) (by omega);have h3b:IntKind.i64.wrap ((q0:Int)+(j:Int)+1+1)=(q0:Int)+(j:Int)+1+1:=wrap_i64 (by omega) (by omega);have h9:(acc.length+1 < 9223372036854775808)=True:=eq_true (by omega);have n0:(0≤(q0:Int)+(j:Int))=True:=eq_true (by omega);have n1:(0≤(q0:Int)+(j:Int)+1)=True:=eq_true (by omega);have n2:((q0:Int)+(j:Int)).toNat=q0+j:=by omega
    have n3:((q0:Int)+(j:Int)+1).toNat=q0+j+1:=by omega
    have e1':((q0:Int)+((j:Int)+1))=(q0:Int)+(j:Int)+1:=by omega
    have e2:((q0:Int)+((j:Int)+((2:Nat):Int)))=(q0:Int)+(j:Int)+1+1:=by omega
    obtain⟨sl1,sl2⟩:=px (s:=s) (X:=(q0:Int)+(j:Int)) (k:=q0+j) (by omega) h1;rw[hd]
    have hnext:(s.drop (q0+j+1)=[]∧((q0:Int)+(j:Int)+1 < (s.length:Int))=False∧((s.length:Int)≤(q0:Int)+(j:Int)+1)=True)∨∃d,s[q0+j+1]? =some d∧s.drop (q0+j+1)=d::s.drop (q0+j+2)∧((q0:Int)+(j:Int)+1 < (s.length:Int))=True∧((s.length:Int)≤(q0:Int)+(j:Int)+1)=False:=by
     by_cases hx:q0+j+1 < s.length
     ·obtain⟨d,a1,a2⟩:=dR (s:=s) (k:=q0+j+1) hx;exact .inr ⟨d,a1,a2,eq_true (by omega),eq_false (by omega)⟩
     ·exact .inl ⟨List.drop_eq_nil_of_le (by omega),eq_false (by omega),eq_true (by omega)⟩
    by_cases k1:c.toNat=39
    ·have k1':((c.toNat:Int)=39)=True:=eq_true (by omega);have fin:∀t:List UInt8,t=acc→(t.length≤64∨64 < t.length):=fun t _=>by omega
     rcases hnext with⟨x1,x2,x4⟩ | ⟨d,x0,x1,x2,x4⟩
     ·rw[x1,Dh k1];by_cases k3:64 < acc.length
      ·have k3':((64:Int) < (acc.length:Int))=True:=eq_true (by omega);refine⟨0,.inl ⟨acc,rfl,.inr ⟨k3,?_⟩⟩⟩;simp[eJ,dG,bl,h1,h6,h3,n0,n2,e1',h9,k1',k3',x2]
      ·have k3':((64:Int) < (acc.length:Int))=False:=eq_false (by omega);refine⟨0,.inl ⟨acc,rfl,.inl ⟨by omega,?_⟩⟩⟩;simp[eJ,dG,bl,h1,h6,h3,n0,n2,e1',h9,k1',k3',x2]
     ·rw[x1];by_cases k2:d.toNat=39
      ·have k2':((d.toNat:Int)=39)=True:=eq_true (by omega);have x3:=(List.getElem?_eq_some_iff.1 x0).1;rw[B4 k1 k2];obtain rfl:c=39:=UInt8.toNat_inj.1 k1;have ih:=pD n s hl q0 f (acc++[39]) (j+2) m md (by simp;omega) (by omega) (by omega) (by omega);rw[show q0+(j+2)=q0+j+2 by omega] at ih;simp only[Int.natCast_add,bl] at ih;simp only[show ((q0:Int)+(j:Int)+((2:Nat):Int))=(q0:Int)+(j:Int)+1+1 by omega] at ih;simp[eJ,dG,bl,h1,h6,h3,n0,n2,e1',h9,h3b,n1,n3,k2',x0,x2];exact ih
      ·have k2':((d.toNat:Int)=39)=False:=eq_false (by omega);rw[CY k1 k2];by_cases k3:64 < acc.length
       ·have k3':((64:Int) < (acc.length:Int))=True:=eq_true (by omega);refine⟨0,.inl ⟨acc,rfl,.inr ⟨k3,?_⟩⟩⟩;simp[eJ,dG,bl,h1,h6,h3,n0,n2,e1',h9,n1,n3,k1',k2',k3',x0,x2]
       ·have k3':((64:Int) < (acc.length:Int))=False:=eq_false (by omega);refine⟨0,.inl ⟨acc,rfl,.inl ⟨by omega,?_⟩⟩⟩;simp[eJ,dG,bl,h1,h6,h3,n0,n2,e1',h9,n1,n3,k1',k2',k3',x0,x2]
    have k1':((c.toNat:Int)=39)=False:=eq_false (by omega);by_cases k4:c.toNat=92
    ·have k4':((c.toNat:Int)=92)=True:=eq_true (by omega);have k2:¬ (c.toNat < 32∨126 < c.toNat):=by omega
     rcases hnext with⟨x1,x2,x4⟩ | ⟨d,x0,x1,x2,x4⟩
     ·rw[x1,Cb k4];refine⟨0,.inr (.inl ⟨rfl,?_⟩)⟩;simp[eJ,dG,bl,h1,h6,h3,n0,n2,e1',h9,k1',k4',x4]
     ·rw[x1];have x3:=(List.getElem?_eq_some_iff.1 x0).1;obtain⟨dl1,dl2⟩:=px (s:=s) (X:=(q0:Int)+(j:Int)+1) (k:=q0+j+1) (by omega) x0
      have key:∀b,rW d=some b→∀R,R=er 1 0 (aT (ak (aw (a8 []) (n+1)) (n+1) eJ) dG 1 m (Cz (.str s) (.ptr 0 0) (.str (acc++[b])) (.int .i64 (q0+j+2:Nat))) ⟨1,[.row (bl 0 [] 0)],1,md⟩)→UY (fg (f+1) (c::d::s.drop (q0+j+2)) acc j) q0 R:=fun b hb R hR=>by
       rw[Ci k4 hb,hR];have ih:=pD n s hl q0 f (acc++[b]) (j+2) m md (by simp;omega) (by omega) (by omega) (by omega);rw[show q0+(j+2)=q0+j+2 by omega] at ih;exact ih
      have cast:(((q0+j+2:Nat)):Int)=(q0:Int)+(j:Int)+1+1:=by omega
      rw[cast] at key;by_cases m1:d.toNat=110
      ·have m1':((d.toNat:Int)=110)=True:=eq_true (by omega);refine key 10 (by unfold rW;rw[if_pos m1]) _ ?_;simp[eJ,dG,bl,h1,h6,h3,n0,n2,e1',h9,h3b,n1,n3,x0,k1',k4',x4,m1']
      have m1':((d.toNat:Int)=110)=False:=eq_false (by omega);by_cases m2:d.toNat=116
      ·have m2':((d.toNat:Int)=116)=True:=eq_true (by omega);refine key 9 (by unfold rW;rw[if_neg m1,if_pos m2]) _ ?_;simp[eJ,dG,bl,h1,h6,h3,n0,n2,e1',h9,h3b,n1,n3,x0,k1',k4',x4,m1',m2']
      have m2':((d.toNat:Int)=116)=False:=eq_false (by omega);by_cases m3:d.toNat=92
      ·have m3':((d.toNat:Int)=92)=True:=eq_true (by omega);refine key d (by unfold rW;rw[if_neg m1,if_neg m2,if_pos m3];exact congrArg some (UInt8.toNat_inj.1 (by rw[m3];rfl))) _ ?_;simp[eJ,dG,bl,h1,h6,h3,n0,n2,e1',h9,h3b,n1,n3,x0,k1',k4',x4,m1',m2',m3',dl1,dl2]
      have m3':((d.toNat:Int)=92)=False:=eq_false (by omega);by_cases m4:d.toNat=39
      ·have m4':((d.toNat:Int)=39)=True:=eq_true (by omega);refine key d (by unfold rW;rw[if_neg m1,if_neg m2,if_neg m3,if_pos m4];exact congrArg some (UInt8.toNat_inj.1 (by rw[m4];rfl))) _ ?_;simp[eJ,dG,bl,h1,h6,h3,n0,n2,e1',h9,h3b,n1,n3,x0,k1',k4',x4,m1',m2',m3',m4',dl1,dl2]
      have m4':((d.toNat:Int)=39)=False:=eq_false (by omega);rw[CQ k4 (by unfold rW;rw[if_neg m1,if_neg m2,if_neg m3,if_neg m4])];refine⟨0,.inr (.inl ⟨rfl,?_⟩)⟩;simp[eJ,dG,bl,h1,h6,h3,n0,n2,e1',h9,h3b,n1,n3,x0,k1',k4',x4,m1',m2',m3',m4']
    have k4':((c.toNat:Int)=92)=False:=eq_false (by omega);by_cases k2:c.toNat < 32∨126 < c.toNat
    ·rw[xp k1 k2];refine⟨0,.inr (.inl ⟨rfl,?_⟩)⟩;by_cases k3:c.toNat < 32
     ·have k3':((c.toNat:Int) < 32)=True:=eq_true (by omega);simp[eJ,dG,bl,h1,h6,h3,n0,n2,e1',h9,k1',k4',k3']
     ·have k3':((c.toNat:Int) < 32)=False:=eq_false (by omega);have k5':(126 < (c.toNat:Int))=True:=eq_true (by omega);simp[eJ,dG,bl,h1,h6,h3,n0,n2,e1',h9,k1',k4',k3',k5']
    ·have k3':((c.toNat:Int) < 32)=False:=eq_false (by omega);have k5':(126 < (c.toNat:Int))=False:=eq_false (by omega);rw[Iq k1 k2 k4];have ih:=pD n s hl q0 f (acc++[c]) (j+1) m md (by simp;omega) (by omega) (by omega) (by omega);rw[show q0+(j+1)=q0+j+1 by omega] at ih;simp only[Int.natCast_add,bl,Int.natCast_one] at ih;simp[eJ,dG,bl,h1,h6,h3,n0,n2,e1',h9,k1',k4',k3',k5',sl1,sl2];exact ih
def wj (q0:Nat) (q:Option (List UInt8)×Nat):AV:=match q.1 with
 | some t=>if 64 < t.length then .tuple [.agg (bl 0 [] 0),.int .i64 0,.int .i64 3] else .tuple [.agg (bl 2 t 0),.int .i64 (q0+q.2:Nat),.int .i64 0]
 | none=>.tuple [.agg (bl 0 [] 0),.int .i64 0,.int .i64 2]
noncomputable def AE:ai:=⟨149,fun
 | [.str s,.int .i64 i]=>if s.length < 1000000000∧0≤i∧i < s.length then some (wj i.toNat (fg (s.length - i.toNat) (s.drop (i.toNat+1)) [] 1)) else none
 | _=>none⟩
theorem cp:AE.f=149:=(rfl)
theorem NR (s:List UInt8) (k:Nat) (hl:s.length < 1000000000) (hk:k < s.length):AE.S [.str s,.int .i64 k]=some (wj k (fg (s.length - k) (s.drop (k+1)) [] 1)):=by
 simp only[AE];rw[if_pos ⟨hl,by omega,by omega⟩,Int.toNat_natCast]
theorem NC:az Tryz.prog AE:=fun args v hv=>by
 unfold AE at hv ⊢;dsimp only at hv ⊢;split at hv
 ·rename_i s i;split at hv
  ·rename_i hc;cases hv;obtain⟨k,rfl⟩:∃k:Nat,i=(k:Int):=⟨i.toNat,by omega⟩
   rw[Int.toNat_natCast]
   have hr:(wj k (fg (s.length - k) (s.drop (k+1)) [] 1)).refs=0:=by
    unfold wj;split
    ·split<;>simp[AV.refs,AV.af,bl]
    ·simp[AV.refs,AV.af,bl]
   refine aH (n:=s.length+5) (h':=h0) (aG (ss:=[]) (by simp)) ?_ hr (by simp[AV.refs,AV.af]);have h3:IntKind.i64.wrap ((k:Int)+1)=(k:Int)+1:=wrap_i64 (by omega) (by omega);have lp:=pD (s.length+3) s (by omega) k (s.length - k) [] 1 (s.length+4) 0 (by simp) (by omega) (by omega) (by omega);generalize fg (s.length - k) (s.drop (k+1)) [] 1=q at *;obtain⟨a,e⟩:=q;simp only[Cz,dG,bl,Int.natCast_add,Int.natCast_one] at lp;unfold wj;obtain⟨md,⟨t,a1,⟨a2,a3⟩ | ⟨a2,a3⟩⟩ | ⟨a1,a3⟩ | ⟨a1,a3⟩⟩:=lp
   ·dsimp only at a1 a3;subst a1;dsimp only;rw[if_neg (by omega)];simp[B1,GF,dG,h3,bl,a3]
   ·dsimp only at a1 a3;subst a1;dsimp only;rw[if_pos (by omega)];simp[B1,GF,dG,h3,bl,a3]
   ·dsimp only at a1 a3;subst a1;dsimp only;simp[B1,GF,dG,h3,bl,a3]
   ·dsimp only at a1 a3;subst a1;dsimp only;simp[B1,GF,dG,h3,bl,a3]
  ·cases hv
 ·cases hv
noncomputable def lF:List ai:=[tO,sR,B9,oT,tI,AE,vF,Jc]
theorem SN:∀s ∈ lF,az Tryz.prog s:=by simp[lF,xP,x5,La,uL,GG,NC,Lr,Mh]
theorem zb (n:Nat) (s:List UInt8) (hl:s.length < 1000000000) (i0 c0:Int):∀(post pre:List UInt8) (m md:Nat),s=pre++post→post.length < m→
 er 1 0 (aT (ak (aw (a8 lF) (n+1)) (n+1) su) cK 1 m (I4 (.str s) (.int .i64 i0) (.ptr 0 0) (.int .u8 c0) (.int .i64 pre.length)) ⟨1,[.row (bl 0 [] 0)],1,md⟩)=
  some (.exit 1,FM 214 [(0,.str s),(1,.int .i64 i0),(4,.ptr 0 0),(7,.int .u8 c0),(8,.int .i64 (pre.length+runN fP post:Nat))],⟨1,[.row (bl 0 [] 0)],0,md⟩)
 | _,_,0,_,_,h=>by omega
 | [],pre,m+1,md,hs,_=>by
   rw[ae];rw[List.append_nil] at hs;subst hs;simp[lF,su,cK,runN,bl,bf,bd,bE,aR,bh,cp,bD,cn]
 | c::r,pre,m+1,md,hs,hm=>by
   rw[ae];have hpl:pre.length+r.length+1=s.length:=by rw[hs];simp;omega
   have h1:s[pre.length]? =some c:=by rw[hs];simp
   have h3:IntKind.i64.wrap ((pre.length:Int)+1)=(pre.length:Int)+1:=wrap_i64 (by omega) (by omega);have h6:((pre.length:Int) < (s.length:Int))=True:=eq_true (by omega);have q:=K8 c;have ih:=zb n s hl i0 c0 r (pre++[c]) m md (by rw[hs];simp) (by simp at hm;omega);simp only[List.length_append,List.length_cons,List.length_nil,Nat.zero_add,Int.natCast_add,Int.natCast_one,bl,lF] at ih;unfold runN
   cases hp:fP c with
   | false=>
     rw[hp] at q;simp[lF,su,cK,bl,h1,h3,h6,q,bf,bd,bE,aR,bh,cp,bD,cn]
   | true=>
     rw[hp] at q;simp only[if_true];rw[show pre.length+(runN fP r+1)=pre.length+1+runN fP r by omega];simp[lF,su,cK,bl,h1,h3,h6,q,bf,bd,bE,aR,bh,cp,bD,cn];exact ih
theorem yc (n:Nat) (s:List UInt8) (hl:s.length < 1000000000) (i0 c0:Int):∀(post pre:List UInt8) (m md:Nat),s=pre++post→post.length < m→
 er 1 0 (aT (ak (aw (a8 lF) (n+1)) (n+1) tE) cM 1 m (IB (.str s) (.int .i64 i0) (.ptr 0 0) (.int .i64 pre.length)) ⟨1,[.row (bl 0 [] 0)],1,md⟩)=
  some (.exit 3,FM 214 [(0,.str s),(1,.int .i64 i0),(4,.ptr 0 0),(8,.int .i64 (pre.length+runN cN post:Nat))],⟨1,[.row (bl 0 [] 0)],0,md⟩)
 | _,_,0,_,_,h=>by omega
 | [],pre,m+1,md,hs,_=>by
   rw[ae];rw[List.append_nil] at hs;subst hs;simp[lF,tE,cM,runN,bl,bf,bd,bE,aR,bh,cp,bD,cn]
 | c::r,pre,m+1,md,hs,hm=>by
   rw[ae];have hpl:pre.length+r.length+1=s.length:=by rw[hs];simp;omega
   have h1:s[pre.length]? =some c:=by rw[hs];simp
   have h3:IntKind.i64.wrap ((pre.length:Int)+1)=(pre.length:Int)+1:=wrap_i64 (by omega) (by omega);have h6:((pre.length:Int) < (s.length:Int))=True:=eq_true (by omega);have q:=p0 c;have ih:=yc n s hl i0 c0 r (pre++[c]) m md (by rw[hs];simp) (by simp at hm;omega);simp only[List.length_append,List.length_cons,List.length_nil,Nat.zero_add,Int.natCast_add,Int.natCast_one,bl,lF] at ih;unfold runN
   cases hp:cN c with
   | false=>
     rw[hp] at q;simp[lF,tE,cM,bl,h1,h3,h6,q,bf,bd,bE,aR,bh,cp,bD,cn]
   | true=>
     rw[hp] at q;simp only[if_true];rw[show pre.length+(runN cN r+1)=pre.length+1+runN cN r by omega];simp[lF,tE,cM,bl,h1,h3,h6,q,bf,bd,bE,aR,bh,cp,bD,cn];exact ih
theorem zG (n:Nat) (s:List UInt8) (hl:s.length < 1000000000) (i0 c0:Int):∀(post pre:List UInt8) (m md:Nat),s=pre++post→post.length < m→
 er 1 0 (aT (ak (aw (a8 lF) (n+1)) (n+1) qB) cE 1 m (I3 (.str s) (.int .i64 i0) (.ptr 0 0) (.int .i64 pre.length)) ⟨1,[.row (bl 0 [] 0)],1,md⟩)=
  some (.exit 5,FM 214 [(0,.str s),(1,.int .i64 i0),(4,.ptr 0 0),(8,.int .i64 (pre.length+iX post:Nat))],⟨1,[.row (bl 0 [] 0)],0,md⟩)
 | _,_,0,_,_,h=>by omega
 | [],pre,m+1,md,hs,_=>by
   rw[ae];rw[List.append_nil] at hs;subst hs;simp[lF,qB,cE,iX,bl,bf,bd,bE,aR,bh,cp,bD,cn]
 | c::r,pre,m+1,md,hs,hm=>by
   rw[ae];have hpl:pre.length+r.length+1=s.length:=by rw[hs];simp;omega
   have h1:s[pre.length]? =some c:=by rw[hs];simp
   have h3:IntKind.i64.wrap ((pre.length:Int)+1)=(pre.length:Int)+1:=wrap_i64 (by omega) (by omega);have h6:((pre.length:Int) < (s.length:Int))=True:=eq_true (by omega);have q:=Et c;have ih:=zG n s hl i0 c0 r (pre++[c]) m md (by rw[hs];simp) (by simp at hm;omega);simp only[List.length_append,List.length_cons,List.length_nil,Nat.zero_add,Int.natCast_add,Int.natCast_one,bl,lF] at ih;have q2:=Be s pre.length hl (by omega);have hd:s.drop pre.length=c::r:=by rw[hs];simp
   rw[hd] at q2;unfold iX
   cases hp:rK c with
   | false=>
     rw[hp] at q;simp[lF,qB,cE,bl,h1,h3,h6,q,bf,bd,bE,aR,bh,cp,bD,cn]
   | true=>
     rw[hp] at q
     cases he:kv (c::r) with
     | true=>
       rw[he] at q2;simp[lF,qB,cE,bl,h1,h3,h6,q,q2,bf,bd,bE,aR,bh,cp,bD,cn]
     | false=>
       rw[he] at q2;simp only[Bool.not_false,Bool.and_self,if_true];rw[show pre.length+(iX r+1)=pre.length+1+iX r by omega];simp[lF,qB,cE,bl,h1,h3,h6,q,q2,bf,bd,bE,aR,bh,cp,bD,cn];exact ih
theorem Fc {c:UInt8} (h:fI c=true):c.toNat=40∨c.toNat=41∨c.toNat=91∨c.toNat=93∨c.toNat=123∨c.toNat=125∨c.toNat=44∨c.toNat=124:=by
 unfold fI at h;rw[List.any_eq_true] at h;obtain⟨d,hd1,hd2⟩:=h;have e:=of_decide_eq_true hd2;simp only[po,List.mem_cons,List.not_mem_nil,or_false] at hd1;rcases hd1 with rfl | rfl | rfl | rfl | rfl | rfl | rfl | rfl<;>rw[←e]<;>decide
theorem JL {c:UInt8} (h:fI c=false):c.toNat≠40∧c.toNat≠41∧c.toNat≠91∧c.toNat≠93∧c.toNat≠123∧c.toNat≠125∧c.toNat≠44∧c.toNat≠124:=by
 have:∀d:UInt8,d ∈ po→c.toNat≠d.toNat:=fun d hd e=>by
  have:fI c=true:=by unfold fI;rw[List.any_eq_true];exact⟨d,hd,decide_eq_true e.symm⟩
  rw[this] at h;cases h
 exact⟨this 40 (by decide),this 41 (by decide),this 91 (by decide),this 93 (by decide),this 123 (by decide),this 125 (by decide),this 44 (by decide),this 124 (by decide)⟩
theorem P8 {c:UInt8} (h:rK c=true):c.toNat≠59∧c.toNat≠33∧c.toNat≠40∧c.toNat≠41∧c.toNat≠91∧c.toNat≠93∧c.toNat≠123∧c.toNat≠125∧c.toNat≠44∧c.toNat≠124:=by
 unfold rK at h;rw[List.any_eq_true] at h;obtain⟨d,hd1,hd2⟩:=h;have e:=of_decide_eq_true hd2;simp only[z7,List.mem_cons,List.not_mem_nil,or_false] at hd1;rcases hd1 with rfl | rfl | rfl | rfl | rfl | rfl | rfl | rfl | rfl | rfl | rfl | rfl | rfl | rfl | rfl | rfl | rfl<;>rw[←e]<;>decide
def dE (k:Nat) (r:Tok×Nat×Int):AV:=
 if r.2.2≠0 then (if r.1.kind=4 then .tuple [bp r.1,.int .i64 (k+r.2.1:Nat),.int .i64 r.2.2] else .tuple [bp jm,.int .i64 0,.int .i64 r.2.2])
 else if (r.1.kind=1∨r.1.kind=2)∧64 < r.1.text.length then .tuple [bp jm,.int .i64 0,.int .i64 3]
 else .tuple [bp r.1,.int .i64 (k+r.2.1:Nat),.int .i64 0]
theorem F8 (k:Nat) (r:Tok×Nat×Int):(dE k r).refs=0:=by
 unfold dE;split
 ·split<;>simp[AV.refs,AV.af,bp]
 ·split<;>simp[AV.refs,AV.af,bp]
noncomputable def Bo:ai:=⟨110,fun
 | [.str s,.int .i64 i]=>if s.length < 1000000000∧0≤i∧i < s.length then some (dE i.toNat (gJ (s.drop i.toNat))) else none
 | _=>none⟩
theorem cU:Bo.f=110:=(rfl)
theorem EH (s:List UInt8) (k:Nat) (hl:s.length < 1000000000) (hk:k < s.length):Bo.S [.str s,.int .i64 k]=some (dE k (gJ (s.drop k))):=by
 simp only[Bo];rw[if_pos ⟨hl,by omega,by omega⟩,Int.toNat_natCast]
theorem Md (s:List UInt8) (k:Nat) (hl:s.length < 1000000000) (hk:k < s.length):
 aw (a8 lF) (s.length+5) 110 [.str s,.int .i64 k] h0=some (dE k (gJ (s.drop k)),h0):=by
 obtain⟨c,h1,hd⟩:=dR (s:=s) (k:=k) hk;have hcb:=c.toNat_lt;have q1:=zc c;have q2:=xE c;have q3:=p0 c;have q4:=Et c;have q5:=Be s k hl (by omega);have h3:IntKind.i64.wrap ((k:Int)+1)=(k:Int)+1:=wrap_i64 (by omega) (by omega);have h3b:IntKind.i64.wrap ((k:Int)+2)=(k:Int)+2:=wrap_i64 (by omega) (by omega);obtain⟨sl1,sl2⟩:=px (s:=s) (X:=(k:Int)) (k:=k) rfl h1;have hpre:(s.take k).length=k:=by rw[List.length_take];omega
 have hsp:s=s.take k++(s.drop k):=(List.take_append_drop k s).symm;have hdl:(c::s.drop (k+1)).length=s.length - k:=by rw[←hd,List.length_drop]
 have l0:=fun (i0 c0:Int) (md:Nat)=>zb (s.length+3) s hl i0 c0 (s.drop k) (s.take k) (s.length+4) md hsp (by rw[List.length_drop];omega)
 have l1:=fun (i0:Int) (md:Nat)=>yc (s.length+3) s hl i0 0 (s.drop k) (s.take k) (s.length+4) md hsp (by rw[List.length_drop];omega)
 have l2:=fun (i0:Int) (md:Nat)=>zG (s.length+3) s hl i0 0 (s.drop k) (s.take k) (s.length+4) md hsp (by rw[List.length_drop];omega)
 rw[hd] at l0 l1 l2 q5 ⊢;simp only[hpre,I4,cK,IB,cM,I3,cE,bl,lF] at l0 l1 l2
 have word:∀q:Nat,k+q≤s.length→sliceB s.length (some (.int .i64 k)) (some (.int .i64 ((k:Int)+(q:Int))))=some (k,k+q)∧(s.take (k+q)).drop k=(c::s.drop (k+1)).take q∧IntKind.i64.wrap ((k:Int)+(q:Int) - (k:Int))=(q:Int)∧((c::s.drop (k+1)).take q).length=q:=fun q hq=>by
  obtain⟨a,b⟩:=pK hq;rw[hd] at b;rw[Int.natCast_add] at a;refine⟨a,b,by rw[wrap_i64 (by omega) (by omega)];omega,?_⟩;rw[List.length_take,hdl];omega
 unfold gJ;dsimp only
 cases k1:iK c with
 | true=>
   rw[k1] at q1
   have kg:ix c=false:=by
    unfold iK at k1;unfold ix;simp only[Bool.and_eq_true,decide_eq_true_eq] at k1;simp only[Bool.or_eq_false_iff,Bool.and_eq_false_iff,decide_eq_false_iff_not];omega
   rw[kg] at q2;simp only[if_true];have hq:=gN fP (c::s.drop (k+1));rw[hdl] at hq;obtain⟨w1,w2,w3,w4⟩:=word (runN fP (c::s.drop (k+1))) (by omega);generalize runN fP (c::s.drop (k+1))=q at *;simp only[Int.natCast_add] at l0;by_cases k2:64 < q
   ·have k2':((64:Int) < (q:Int))=True:=eq_true (by omega)
    have e:dE k (⟨1,(c::s.drop (k+1)).take q,0,false,0⟩,q,0)=.tuple [bp jm,.int .i64 0,.int .i64 3]:=by
     unfold dE;rw[if_neg (by simp),if_pos ⟨.inl rfl,by rw[w4];exact k2⟩]
    rw[e];simp[lF,ee,ji,cK,cM,cE,bl,h1,q1,q2,q3,bf,bd,bE,aR,bh,cp,bD,cn,l0,w3,k2',bp,jm]
   ·have k2':((64:Int) < (q:Int))=False:=eq_false (by omega)
    have e:dE k (⟨1,(c::s.drop (k+1)).take q,0,false,0⟩,q,0)=.tuple [bp ⟨1,(c::s.drop (k+1)).take q,0,false,0⟩,.int .i64 (k+q:Nat),.int .i64 0]:=by
     unfold dE;rw[if_neg (by simp),if_neg (by rintro⟨_,h⟩;rw[w4] at h;omega)]
    rw[e];simp[lF,ee,ji,cK,cM,cE,bl,h1,q1,q2,q3,bf,bd,bE,aR,bh,cp,bD,cn,l0,w1,w2,w3,k2',bp]
 | false=>
 rw[k1] at q1;simp only[Bool.false_eq_true,if_false]
 cases k2:ix c with
 | true=>
   rw[k2] at q2;simp only[if_true];have hq:=gN fP (c::s.drop (k+1));rw[hdl] at hq;obtain⟨w1,w2,w3,w4⟩:=word (runN fP (c::s.drop (k+1))) (by omega);generalize runN fP (c::s.drop (k+1))=q at *;simp only[Int.natCast_add] at l0
   have e:dE k (⟨3,(c::s.drop (k+1)).take q,0,false,0⟩,q,0)=.tuple [bp ⟨3,(c::s.drop (k+1)).take q,0,false,0⟩,.int .i64 (k+q:Nat),.int .i64 0]:=by
    unfold dE;rw[if_neg (by simp),if_neg (by rintro⟨h,_⟩;rcases h with h | h<;>simp at h)]
   rw[e];simp[lF,ee,ji,cK,cM,cE,bl,h1,q1,q2,q3,bf,bd,bE,aR,bh,cp,bD,cn,l0,w1,w2,w3,bp]
 | false=>
 rw[k2] at q2;simp only[Bool.false_eq_true,if_false]
 cases k3:cN c with
 | true=>
   rw[k3] at q3;simp only[if_true];have hq:=gN cN (c::s.drop (k+1));rw[hdl] at hq;obtain⟨w1,w2,w3,w4⟩:=word (runN cN (c::s.drop (k+1))) (by omega);generalize runN cN (c::s.drop (k+1))=q at *;have q6:=HJ ((c::s.drop (k+1)).take q) (by rw[w4];omega);generalize (c::s.drop (k+1)).take q=D at *;generalize fX D=P at *;obtain⟨v,e⟩:=P;simp only[Int.natCast_add] at l1;dsimp only at q6 ⊢
   have e:dE k (⟨4,[],v,false,0⟩,q,e)=.tuple [bp ⟨4,[],v,false,0⟩,.int .i64 (k+q:Nat),.int .i64 e]:=by
    unfold dE;dsimp only;by_cases he:e=0
    ·subst he;rw[if_neg (by simp),if_neg (by rintro⟨h,_⟩;rcases h with h | h<;>simp at h)]
    ·rw[if_pos he,if_pos rfl]
   rw[e];simp[lF,ee,ji,cK,cM,cE,bl,h1,q1,q2,q3,bf,bd,bE,aR,bh,cp,bD,cn,l1,w1,w2,w3,q6,bp]
 | false=>
 rw[k3] at q3;simp only[Bool.false_eq_true,if_false];by_cases k4:c.toNat=39
 ·have k4':((c.toNat:Int)=39)=True:=eq_true (by omega);rw[if_pos k4];have q6:=NR s k hl hk;rw[show s.length - k=(s.drop (k+1)).length+1 by rw[List.length_drop];omega] at q6;generalize fg ((s.drop (k+1)).length+1) (s.drop (k+1)) [] 1=Q at *;obtain⟨a,q⟩:=Q
  cases a with
  | none=>
    simp only[wj,bl] at q6;simp[lF,ee,ji,cK,cM,cE,bl,h1,q1,q2,q3,bf,bd,bE,aR,bh,cp,bD,cn,k4',q6,dE,bp,jm]
  | some t=>
    by_cases k5:64 < t.length
    ·simp only[wj,bl,if_pos k5] at q6;simp[lF,ee,ji,cK,cM,cE,bl,h1,q1,q2,q3,bf,bd,bE,aR,bh,cp,bD,cn,k4',q6,dE,bp,jm,k5]
    ·simp only[wj,bl,if_neg k5] at q6;simp[lF,ee,ji,cK,cM,cE,bl,h1,q1,q2,q3,bf,bd,bE,aR,bh,cp,bD,cn,k4',q6,dE,bp,jm,k5]
 have k4':((c.toNat:Int)=39)=False:=eq_false (by omega);rw[if_neg k4]
 cases k5:kv (c::s.drop (k+1)) with
 | true=>
   rw[k5] at q5;simp only[if_true];simp[lF,ee,ji,cK,cM,cE,bl,h1,q1,q2,q3,bf,bd,bE,aR,bh,cp,bD,cn,k4',q5,h3,dE,bp]
 | false=>
 rw[k5] at q5;simp only[Bool.false_eq_true,if_false]
 cases k6:rK c with
 | true=>
   rw[k6] at q4;simp only[if_true];obtain⟨f1,f2,f3,f4,f5,f6,f7,f8,f9,f10⟩:=P8 k6;have g:∀m:Nat,c.toNat≠m→((c.toNat:Int)=(m:Int))=False:=fun m h=>eq_false (by omega)
   have g1:((c.toNat:Int)=59)=False:=g 59 f1;have g2:((c.toNat:Int)=33)=False:=g 33 f2;have g3:((c.toNat:Int)=40)=False:=g 40 f3;have g4:((c.toNat:Int)=41)=False:=g 41 f4;have g5:((c.toNat:Int)=91)=False:=g 91 f5;have g6:((c.toNat:Int)=93)=False:=g 93 f6;have g7:((c.toNat:Int)=123)=False:=g 123 f7;have g8:((c.toNat:Int)=125)=False:=g 125 f8;have g9:((c.toNat:Int)=44)=False:=g 44 f9;have g10:((c.toNat:Int)=124)=False:=g 124 f10;have hq:=ye (c::s.drop (k+1));rw[hdl] at hq;obtain⟨w1,w2,w3,w4⟩:=word (iX (c::s.drop (k+1))) (by omega);generalize iX (c::s.drop (k+1))=q at *;simp only[Int.natCast_add] at l2;by_cases k2:64 < q
   ·have k2':((64:Int) < (q:Int))=True:=eq_true (by omega)
    have e:dE k (⟨1,(c::s.drop (k+1)).take q,0,false,0⟩,q,0)=.tuple [bp jm,.int .i64 0,.int .i64 3]:=by
     unfold dE;rw[if_neg (by simp),if_pos ⟨.inl rfl,by rw[w4];exact k2⟩]
    rw[e];simp[lF,ee,ji,cK,cM,cE,bl,h1,q1,q2,q3,bf,bd,bE,aR,bh,cp,bD,cn,l2,w3,k2',bp,jm,k4',q4,q5,g1,g2,g3,g4,g5,g6,g7,g8,g9,g10]
   ·have k2':((64:Int) < (q:Int))=False:=eq_false (by omega)
    have e:dE k (⟨1,(c::s.drop (k+1)).take q,0,false,0⟩,q,0)=.tuple [bp ⟨1,(c::s.drop (k+1)).take q,0,false,0⟩,.int .i64 (k+q:Nat),.int .i64 0]:=by
     unfold dE;rw[if_neg (by simp),if_neg (by rintro⟨_,h⟩;rw[w4] at h;omega)]
    rw[e];simp[lF,ee,ji,cK,cM,cE,bl,h1,q1,q2,q3,bf,bd,bE,aR,bh,cp,bD,cn,l2,w1,w2,w3,k2',bp,k4',q4,q5,g1,g2,g3,g4,g5,g6,g7,g8,g9,g10]
 | false=>
 rw[k6] at q4;simp only[Bool.false_eq_true,if_false];by_cases k7:c.toNat=59∨c.toNat=33
 ·rw[if_pos k7];by_cases k8:c.toNat=59
  ·have k8':((c.toNat:Int)=59)=True:=eq_true (by omega);simp[lF,ee,ji,cK,cM,cE,bl,h1,q1,q2,q3,bf,bd,bE,aR,bh,cp,bD,cn,h3,k4',k8',q5,sl1,sl2,dE,bp]
  ·have k8':((c.toNat:Int)=59)=False:=eq_false (by omega);have k9':((c.toNat:Int)=33)=True:=eq_true (by omega);simp[lF,ee,ji,cK,cM,cE,bl,h1,q1,q2,q3,bf,bd,bE,aR,bh,cp,bD,cn,h3,k4',k8',k9',q5,sl1,sl2,dE,bp]
 rw[if_neg k7];have k8':((c.toNat:Int)=59)=False:=eq_false (by omega);have k9':((c.toNat:Int)=33)=False:=eq_false (by omega)
 have hnext:(s.drop (k+1)=[]∧((k:Int)+1 < (s.length:Int))=False)∨∃d,s[k+1]? =some d∧s.drop (k+1)=d::s.drop (k+2)∧((k:Int)+1 < (s.length:Int))=True∧k+2≤s.length:=by
  by_cases hx:k+1 < s.length
  ·obtain⟨d,a1,a2⟩:=dR (s:=s) (k:=k+1) hx;exact .inr ⟨d,a1,a2,eq_true (by omega),by omega⟩
  ·exact .inl ⟨List.drop_eq_nil_of_le (by omega),eq_false (by omega)⟩
 have n1:(0≤(k:Int)+1)=True:=eq_true (by omega);have n2:((k:Int)+1).toNat=k+1:=by omega
 -- punctuation,or nothing,when no pair is there
 have fin:∀(A B:Prop),((c.toNat:Int)=91)=A→((c.toNat:Int)=123)=B→
  (∀(W:Int),(((c.toNat:Int)=91∧W=93)∨((c.toNat:Int)=123∧W=125))→IntKind.u8.wrap ((c.toNat:Int)+2)=W∧(((k:Int)+1 < (s.length:Int))=False∨∃d:UInt8,s[k+1]? =some d∧((k:Int)+1 < (s.length:Int))=True∧((d.toNat:Int)=W)=False))→
  aw (a8 lF) (s.length+5) 110 [.str s,.int .i64 k] h0=some (if fI c then .tuple [bp ⟨5,[c],0,false,0⟩,.int .i64 (k+1:Nat),.int .i64 0] else .tuple [bp jm,.int .i64 0,.int .i64 2],h0):=fun A B hA hB hW=>by
  cases hp:fI c with
  | true=>
    rw[if_pos rfl];rcases Fc hp with e | e | e | e | e | e | e | e
    ·have g91:((c.toNat:Int)=91)=False:=eq_false (by omega);have g123:((c.toNat:Int)=123)=False:=eq_false (by omega);have g40:((c.toNat:Int)=40)=True:=eq_true (by omega);simp[lF,ee,ji,cK,cM,cE,bl,h1,q1,q2,q3,bf,bd,bE,aR,bh,cp,bD,cn,h3,k4',k8',k9',q4,q5,sl1,sl2,g91,g123,g40,bp]
    ·have g40:((c.toNat:Int)=40)=False:=eq_false (by omega);have g91:((c.toNat:Int)=91)=False:=eq_false (by omega);have g123:((c.toNat:Int)=123)=False:=eq_false (by omega);have g41:((c.toNat:Int)=41)=True:=eq_true (by omega);simp[lF,ee,ji,cK,cM,cE,bl,h1,q1,q2,q3,bf,bd,bE,aR,bh,cp,bD,cn,h3,k4',k8',k9',q4,q5,sl1,sl2,g40,g91,g123,g41,bp]
    ·have g40:((c.toNat:Int)=40)=False:=eq_false (by omega);have g41:((c.toNat:Int)=41)=False:=eq_false (by omega);have g91:((c.toNat:Int)=91)=True:=eq_true (by omega);obtain⟨hw,hx⟩:=hW 93 (.inl ⟨by omega,rfl⟩);rcases hx with x2 | ⟨d,x0,x2,x3⟩
     ·simp[lF,ee,ji,cK,cM,cE,bl,h1,q1,q2,q3,bf,bd,bE,aR,bh,cp,bD,cn,h3,k4',k8',k9',q4,q5,sl1,sl2,g40,g41,g91,hw,x2,bp]
     ·simp[lF,ee,ji,cK,cM,cE,bl,h1,q1,q2,q3,bf,bd,bE,aR,bh,cp,bD,cn,h3,k4',k8',k9',q4,q5,sl1,sl2,g40,g41,g91,hw,x0,x2,x3,n1,n2,bp]
    ·have g40:((c.toNat:Int)=40)=False:=eq_false (by omega);have g41:((c.toNat:Int)=41)=False:=eq_false (by omega);have g91:((c.toNat:Int)=91)=False:=eq_false (by omega);have g123:((c.toNat:Int)=123)=False:=eq_false (by omega);have g93:((c.toNat:Int)=93)=True:=eq_true (by omega);simp[lF,ee,ji,cK,cM,cE,bl,h1,q1,q2,q3,bf,bd,bE,aR,bh,cp,bD,cn,h3,k4',k8',k9',q4,q5,sl1,sl2,g40,g41,g91,g123,g93,bp]
    ·have g40:((c.toNat:Int)=40)=False:=eq_false (by omega);have g41:((c.toNat:Int)=41)=False:=eq_false (by omega);have g91:((c.toNat:Int)=91)=False:=eq_false (by omega);have g93:((c.toNat:Int)=93)=False:=eq_false (by omega);have g123:((c.toNat:Int)=123)=True:=eq_true (by omega);obtain⟨hw,hx⟩:=hW 125 (.inr ⟨by omega,rfl⟩);rcases hx with x2 | ⟨d,x0,x2,x3⟩
     ·simp[lF,ee,ji,cK,cM,cE,bl,h1,q1,q2,q3,bf,bd,bE,aR,bh,cp,bD,cn,h3,k4',k8',k9',q4,q5,sl1,sl2,g40,g41,g91,g93,g123,hw,x2,bp]
     ·simp[lF,ee,ji,cK,cM,cE,bl,h1,q1,q2,q3,bf,bd,bE,aR,bh,cp,bD,cn,h3,k4',k8',k9',q4,q5,sl1,sl2,g40,g41,g91,g93,g123,hw,x0,x2,x3,n1,n2,bp]
    ·have g40:((c.toNat:Int)=40)=False:=eq_false (by omega);have g41:((c.toNat:Int)=41)=False:=eq_false (by omega);have g91:((c.toNat:Int)=91)=False:=eq_false (by omega);have g93:((c.toNat:Int)=93)=False:=eq_false (by omega);have g123:((c.toNat:Int)=123)=False:=eq_false (by omega);have g125:((c.toNat:Int)=125)=True:=eq_true (by omega);simp[lF,ee,ji,cK,cM,cE,bl,h1,q1,q2,q3,bf,bd,bE,aR,bh,cp,bD,cn,h3,k4',k8',k9',q4,q5,sl1,sl2,g40,g41,g91,g93,g123,g125,bp]
    ·have g40:((c.toNat:Int)=40)=False:=eq_false (by omega);have g41:((c.toNat:Int)=41)=False:=eq_false (by omega);have g91:((c.toNat:Int)=91)=False:=eq_false (by omega);have g93:((c.toNat:Int)=93)=False:=eq_false (by omega);have g123:((c.toNat:Int)=123)=False:=eq_false (by omega);have g125:((c.toNat:Int)=125)=False:=eq_false (by omega);have g44:((c.toNat:Int)=44)=True:=eq_true (by omega);simp[lF,ee,ji,cK,cM,cE,bl,h1,q1,q2,q3,bf,bd,bE,aR,bh,cp,bD,cn,h3,k4',k8',k9',q4,q5,sl1,sl2,g40,g41,g91,g93,g123,g125,g44,bp]
    ·have g40:((c.toNat:Int)=40)=False:=eq_false (by omega);have g41:((c.toNat:Int)=41)=False:=eq_false (by omega);have g44:((c.toNat:Int)=44)=False:=eq_false (by omega);have g91:((c.toNat:Int)=91)=False:=eq_false (by omega);have g93:((c.toNat:Int)=93)=False:=eq_false (by omega);have g123:((c.toNat:Int)=123)=False:=eq_false (by omega);have g125:((c.toNat:Int)=125)=False:=eq_false (by omega);have g124:((c.toNat:Int)=124)=True:=eq_true (by omega);simp[lF,ee,ji,cK,cM,cE,bl,h1,q1,q2,q3,bf,bd,bE,aR,bh,cp,bD,cn,h3,k4',k8',k9',q4,q5,sl1,sl2,g40,g41,g44,g91,g93,g123,g125,g124,bp]
  | false=>
    rw[if_neg (by simp)];obtain⟨f3,f4,f5,f6,f7,f8,f9,f10⟩:=JL hp;have g:∀m:Nat,c.toNat≠m→((c.toNat:Int)=(m:Int))=False:=fun m h=>eq_false (by omega)
    have g3:((c.toNat:Int)=40)=False:=g 40 f3;have g4:((c.toNat:Int)=41)=False:=g 41 f4;have g5:((c.toNat:Int)=91)=False:=g 91 f5;have g6:((c.toNat:Int)=93)=False:=g 93 f6;have g7:((c.toNat:Int)=123)=False:=g 123 f7;have g8:((c.toNat:Int)=125)=False:=g 125 f8;have g9:((c.toNat:Int)=44)=False:=g 44 f9;have g10:((c.toNat:Int)=124)=False:=g 124 f10;simp[lF,ee,ji,cK,cM,cE,bl,h1,q1,q2,q3,bf,bd,bE,aR,bh,cp,bD,cn,h3,k4',k8',k9',q4,q5,g3,g4,g5,g6,g7,g8,g9,g10,bp,jm]
 have val5:dE k (⟨5,[c],0,false,0⟩,1,0)=.tuple [bp ⟨5,[c],0,false,0⟩,.int .i64 (k+1:Nat),.int .i64 0]:=by
  unfold dE;rw[if_neg (by simp),if_neg (by rintro⟨h,_⟩;rcases h with h | h<;>simp at h)]
 have val0:dE k (jm,0,2)=.tuple [bp jm,.int .i64 0,.int .i64 2]:=by
  unfold dE;rw[if_pos (by simp),if_neg (by simp[jm])]
 rcases hnext with⟨x1,x2⟩ | ⟨d,x0,x1,x2,x3⟩
 ·rw[x1];dsimp only
  have:=fin _ _ rfl rfl (fun W hW=>by
   refine⟨?_,.inl x2⟩;rcases hW with⟨e,rfl⟩ | ⟨e,rfl⟩<;>rw[e]<;>rfl)
  rw[this];cases fI c
  ·rw[if_neg (by simp),if_neg (by simp),val0]
  ·rw[if_pos rfl,if_pos rfl,val5]
 ·rw[x1];dsimp only;by_cases kk:(c.toNat=91∧d.toNat=93)∨(c.toNat=123∧d.toNat=125)
  ·rw[if_pos kk];obtain⟨w1,w2,w3,w4⟩:=word 2 x3;have e3:(c::s.drop (k+1)).take 2=[c,d]:=by rw[x1];rfl
   rw[e3] at w2;rw[show ((2:Nat):Int)=2 from rfl] at w1
   have e:dE k (⟨1,[c,d],0,false,0⟩,2,0)=.tuple [bp ⟨1,[c,d],0,false,0⟩,.int .i64 (k+2:Nat),.int .i64 0]:=by
    unfold dE;rw[if_neg (by simp),if_neg (by rintro⟨_,h⟩;simp at h)]
   rw[e];rcases kk with⟨j1,j2⟩ | ⟨j1,j2⟩
   ·have g5:((c.toNat:Int)=91)=True:=eq_true (by omega);have g6:((d.toNat:Int)=93)=True:=eq_true (by omega);have hw:IntKind.u8.wrap ((c.toNat:Int)+2)=93:=by rw[j1];rfl
    simp[lF,ee,ji,cK,cM,cE,bl,h1,q1,q2,q3,bf,bd,bE,aR,bh,cp,bD,cn,h3,h3b,k4',k8',k9',q4,q5,g5,g6,hw,x0,x2,n1,n2,w1,w2,bp]
   ·have g5:((c.toNat:Int)=91)=False:=eq_false (by omega);have g7:((c.toNat:Int)=123)=True:=eq_true (by omega);have g6:((d.toNat:Int)=125)=True:=eq_true (by omega);have hw:IntKind.u8.wrap ((c.toNat:Int)+2)=125:=by rw[j1];rfl
    simp[lF,ee,ji,cK,cM,cE,bl,h1,q1,q2,q3,bf,bd,bE,aR,bh,cp,bD,cn,h3,h3b,k4',k8',k9',q4,q5,g5,g7,g6,hw,x0,x2,n1,n2,w1,w2,bp]
  ·rw[if_neg kk]
   have:=fin _ _ rfl rfl (fun W hW=>by
    rcases hW with⟨e,rfl⟩ | ⟨e,rfl⟩
    ·exact⟨by rw[e];rfl,.inr ⟨d,x0,x2,eq_false (by omega)⟩⟩
    ·exact⟨by rw[e];rfl,.inr ⟨d,x0,x2,eq_false (by omega)⟩⟩)
   rw[this];cases fI c
   ·rw[if_neg (by simp),if_neg (by simp),val0]
   ·rw[if_pos rfl,if_pos rfl,val5]
theorem NG:az Tryz.prog Bo:=fun args v hv=>by
 unfold Bo at hv ⊢;dsimp only at hv ⊢;split at hv
 ·rename_i s i;split at hv
  ·rename_i hc;cases hv;obtain⟨k,rfl⟩:∃k:Nat,i=(k:Int):=⟨i.toNat,by omega⟩
   rw[Int.toNat_natCast];exact aH (aG SN) (Md s k hc.1 (by omega)) (F8 _ _) (by simp[AV.refs,AV.af])
  ·cases hv
 ·cases hv
theorem rj:∀(a b:Nat) (l:List UInt8),l.length < a→l.length < b→bO a l=bO b l
 | 0,b,l,h,_=>by omega
 | a+1,0,l,_,h=>by omega
 | a+1,b+1,[],_,_=>rfl
 | a+1,b+1,c::r,ha,hb=>by
   simp only[List.length_cons] at ha hb;unfold bO;split
   ·rw[rj a b r (by omega) (by omega)]
   ·split
    ·rename_i h37
     have hn:eE c=true:=by
      unfold eE;rw[decide_eq_false (by omega)];rfl
     have hp:1≤runN eE (c::r):=mL hn;have hr:((c::r).drop (runN eE (c::r))).length < r.length+1:=by rw[List.length_drop,List.length_cons];omega
     rw[rj a b _ (by omega) (by omega)]
    ·rfl
theorem qu (l:List UInt8) (a b:Nat) (ha:l.length < a) (hb:l.length < b):bO a l=bO b l:=rj a b l ha hb
noncomputable def ki:List ai:=[ua,Bo]
theorem Tc:∀s ∈ ki,az Tryz.prog s:=by simp[ki,xF,NG]
def Il (r:List Tok×Int×Int) (s:List UInt8) (R:Option (Ex×List AV×aa)):Prop:=
 ∃md',(r.2.2=0∧r.2.1=s.length∧R=some (.exit 0,FM 75 [(0,.str s),(5,vK 0 r.1)],⟨(hK r.1 []).length,hK r.1 [],0,md'⟩))∨
   (r.2.2≠0∧r.1=[]∧R=some (.ret,FM 75 [(2,.ax),(3,.int .i64 r.2.1),(4,.int .i64 r.2.2)],⟨0,[],0,md'⟩))
theorem Iz (n:Nat) (s:List UInt8) (hl:s.length < 1000000000) (acc:List Tok) (hf:AV.af (cw acc)=0):∀(post pre:List UInt8) (m md:Nat),s=pre++post→post.length < m→
 er 1 0 (aT (ak (aw (a8 ki) (n+1)) (n+1) n9) dz 1 m (CU (.str s) (.vec 0 0 acc.length 5 acc.length) (.int .i64 pre.length)) ⟨1,[.row (cw acc)],1,md⟩)=
  some (.exit 2,FM 75 [(0,.str s),(5,.vec 0 0 acc.length 5 acc.length),(6,.int .i64 (pre.length+runN eE post:Nat))],⟨1,[.row (cw acc)],0,md⟩)
 | _,_,0,_,_,h=>by omega
 | [],pre,m+1,md,hs,_=>by
   rw[ae];rw[List.append_nil] at hs;subst hs;simp[ki,n9,dz,runN,bj,cU]
 | c::r,pre,m+1,md,hs,hm=>by
   rw[ae];have hpl:pre.length+r.length+1=s.length:=by rw[hs];simp;omega
   have h1:s[pre.length]? =some c:=by rw[hs];simp
   have h3:IntKind.i64.wrap ((pre.length:Int)+1)=(pre.length:Int)+1:=wrap_i64 (by omega) (by omega);have h6:((pre.length:Int) < (s.length:Int))=True:=eq_true (by omega);have ih:=Iz n s hl acc hf r (pre++[c]) m md (by rw[hs];simp) (by simp at hm;omega);simp only[List.length_append,List.length_cons,List.length_nil,Nat.zero_add,Int.natCast_add,Int.natCast_one,ki] at ih;unfold runN;by_cases h:c.toNat=10
   ·have h':((c.toNat:Int)=10)=True:=eq_true (by omega);rw[if_neg (by unfold eE;simp[h])];simp[ki,n9,dz,h1,h3,h6,h',hf,bj,cU]
   ·have h':((c.toNat:Int)=10)=False:=eq_false (by omega);rw[if_pos (by unfold eE;simp[h])];rw[show pre.length+(runN eE r+1)=pre.length+1+runN eE r by omega];simp[ki,n9,dz,h1,h3,h6,h',hf,bj,cU];exact ih
theorem Iv (n:Nat) (s:List UInt8) (hl:s.length < 1000000000):∀(post pre:List UInt8) (m md:Nat),s=pre++post→post.length < m→
 er 0 0 (aT (ak (aw (a8 ki) (n+1)) (n+1) n9) dz 0 m (CU (.str s) (.ax) (.int .i64 pre.length)) ⟨0,[],0,md⟩)=
  some (.exit 2,FM 75 [(0,.str s),(5,.ax),(6,.int .i64 (pre.length+runN eE post:Nat))],⟨0,[],0,md⟩)
 | _,_,0,_,_,h=>by omega
 | [],pre,m+1,md,hs,_=>by
   rw[ae];rw[List.append_nil] at hs;subst hs;simp[ki,n9,dz,runN,bj,cU]
 | c::r,pre,m+1,md,hs,hm=>by
   rw[ae];have hpl:pre.length+r.length+1=s.length:=by rw[hs];simp;omega
   have h1:s[pre.length]? =some c:=by rw[hs];simp
   have h3:IntKind.i64.wrap ((pre.length:Int)+1)=(pre.length:Int)+1:=wrap_i64 (by omega) (by omega);have h6:((pre.length:Int) < (s.length:Int))=True:=eq_true (by omega);have ih:=Iv n s hl r (pre++[c]) m md (by rw[hs];simp) (by simp at hm;omega);simp only[List.length_append,List.length_cons,List.length_nil,Nat.zero_add,Int.natCast_add,Int.natCast_one,ki] at ih;unfold runN;by_cases h:c.toNat=10
   ·have h':((c.toNat:Int)=10)=True:=eq_true (by omega);rw[if_neg (by unfold eE;simp[h])];simp[ki,n9,dz,h1,h3,h6,h',bj,cU]
   ·have h':((c.toNat:Int)=10)=False:=eq_false (by omega);rw[if_pos (by unfold eE;simp[h])];rw[show pre.length+(runN eE r+1)=pre.length+1+runN eE r by omega];simp[ki,n9,dz,h1,h3,h6,h',bj,cU];exact ih
theorem tq (n:Nat) (s:List UInt8) (hl:s.length≤4096) (hn:s.length < n):∀(m f:Nat) (acc:List Tok) (j md:Nat),acc≠[]→acc.length≤1024→j≤s.length→s.length - j < f→s.length - j < m→
 Il (ml f s (j+bO (s.length+1) (s.drop j)) acc) s (er 0 0 (aT (ak (aw (a8 ki) (n+1)) (n+1) et) dO 0 m (yM (.str s) (.vec 0 0 acc.length 5 acc.length) (.int .i64 j)) ⟨1,[.row (cw acc)],0,md⟩))
 | 0,f,acc,j,md,hne,hac,hk,hf0,hm=>by omega
 | m+1,f,acc,j,md,hne,hac,hk,hf0,hm=>by
   rw[ae];have hf:=jD acc;have h8:(acc.length+1)*48≤140737488355328:=by omega
   have h9:acc.length+1 < 9223372036854775808:=by omega
   have h10:(cw acc).take (acc.length*5)=cw acc:=by rw[List.take_of_length_le];rw[kM];exact Nat.le_refl _
   have h11:=kM acc;by_cases he:j=s.length
   ·have h6:((j:Int) < (s.length:Int))=False:=eq_false (by omega);have hd:s.drop j=[]:=by rw[he];exact List.drop_length
    rw[hd,show bO (s.length+1) []=0 from rfl,Nat.add_zero];obtain⟨f,rfl⟩:∃f',f=f'+1:=⟨f - 1,by omega⟩
    unfold ml;rw[if_pos (by omega)];refine⟨md,.inl ⟨rfl,rfl,?_⟩⟩;rw[RD hne,R1 hne];simp[ki,et,dO,dz,bp,hf,h8,h9,h10,h11,au,bj,cU,h6,he]
   ·have hjl:j < s.length:=by omega
    have h6:((j:Int) < (s.length:Int))=True:=eq_true (by omega);obtain⟨c,h1,hd⟩:=dR (s:=s) (k:=j) hjl;have h3:IntKind.i64.wrap ((j:Int)+1)=(j:Int)+1:=wrap_i64 (by omega) (by omega);have qb:=rH c;by_cases hb:iz c=true
    ·rw[hb] at qb
     have e:bO (s.length+1) (s.drop j)=bO (s.length+1) (s.drop (j+1))+1:=by
      rw[hd];conv=>lhs;unfold bO
      rw[if_pos hb,qu (s.drop (j+1)) s.length (s.length+1) (by rw[List.length_drop];omega) (by rw[List.length_drop];omega)]
     have ih:=tq n s hl hn m f acc (j+1) md hne hac (by omega) (by omega) (by omega);rw[e,show j+(bO (s.length+1) (s.drop (j+1))+1)=j+1+bO (s.length+1) (s.drop (j+1)) by omega];simp only[Int.natCast_add,Int.natCast_one,ki] at ih;simp[ki,et,dO,dz,bp,hf,h8,h9,h10,h11,au,bj,cU,h1,h3,h6,qb];exact ih
    have hb':iz c=false:=by simpa using hb
    rw[hb'] at qb;by_cases h37:c.toNat=37
    ·have h37':((c.toNat:Int)=37)=True:=eq_true (by omega);have hr:=gN eE (s.drop j);rw[List.length_drop] at hr;have hr1:1≤runN eE (s.drop j):=by rw[hd];exact mL (by unfold eE;simp[h37])
     have e:bO (s.length+1) (s.drop j)=runN eE (s.drop j)+bO (s.length+1) (s.drop (j+runN eE (s.drop j))):=by
      rw[hd];conv=>lhs;unfold bO
      rw[if_neg hb,if_pos h37,←hd,List.drop_drop,qu (s.drop (j+runN eE (s.drop j))) s.length (s.length+1) (by rw[List.length_drop];omega) (by rw[List.length_drop];omega)]
     have ih:=tq n s hl hn m f acc (j+runN eE (s.drop j)) md hne hac (by omega) (by omega) (by omega);have lp:=fun md=>Iz n s (by omega) acc hf (s.drop j) (s.take j) (n+1) md (List.take_append_drop j s).symm (by rw[List.length_drop];omega)
     rw[e,←Nat.add_assoc];rw[show (s.take j).length=j by rw[List.length_take];omega] at lp;generalize runN eE (s.drop j)=q at *;simp only[Int.natCast_add,ki,CU,dz] at ih lp;simp[ki,et,dO,dz,bp,hf,h8,h9,h10,h11,au,bj,cU,h1,h3,h6,qb,h37',lp];exact ih
    have h37':((c.toNat:Int)=37)=False:=eq_false (by omega)
    have e0:bO (s.length+1) (s.drop j)=0:=by
     rw[hd];unfold bO;rw[if_neg hb,if_neg h37]
    rw[e0,Nat.add_zero];obtain⟨f,rfl⟩:∃f',f=f'+1:=⟨f - 1,by omega⟩
    unfold ml;rw[if_neg (by omega)];have q1:=EH s j (by omega) hjl;obtain⟨b1,b2⟩:=nk (s.drop j);rw[List.length_drop] at b1;generalize gJ (s.drop j)=O at *;obtain⟨⟨kd,tx,nm,op,a0⟩,k,e⟩:=O;dsimp only at b1 b2 ⊢;by_cases e1:e=0
    ·subst e1;rw[if_neg (by simp)];have hk1:=b2 rfl;by_cases hlong:(kd=1∨kd=2)∧64 < tx.length
     ·rw[if_pos (.inl hlong)]
      have q2:dE j (⟨kd,tx,nm,op,a0⟩,k,0)=.tuple [bp jm,.int .i64 0,.int .i64 3]:=by
       unfold dE;rw[if_neg (by simp),if_pos hlong]
      rw[q2] at q1;simp only[bp,jm] at q1;refine⟨min md 1,.inr ⟨by simp,rfl,?_⟩⟩;simp[ki,et,dO,dz,bp,hf,h8,h9,h10,h11,au,bj,cU,h1,h3,h6,qb,h37',q1]
     ·have q2:dE j (⟨kd,tx,nm,op,a0⟩,k,0)=.tuple [bp ⟨kd,tx,nm,op,a0⟩,.int .i64 (j+k:Nat),.int .i64 0]:=by
       unfold dE;rw[if_neg (by simp),if_neg hlong]
      rw[q2] at q1;simp only[bp,Int.natCast_add] at q1;by_cases h1024:(acc:List Tok).length=1024
      ·rw[if_pos (.inr h1024)];have k4':((1024:Int)≤(acc.length:Int))=True:=eq_true (by omega);refine⟨min md 1,.inr ⟨by simp,rfl,?_⟩⟩;simp[ki,et,dO,dz,bp,hf,h8,h9,h10,h11,au,bj,cU,h1,h3,h6,qb,h37',q1,k4']
      ·rw[if_neg (by rintro (h | h);exact hlong h;exact h1024 h)];have n0:(0≤(j:Int)+(k:Int))=True:=eq_true (by omega);have n2:((j:Int)+(k:Int)).toNat=j+k:=by omega
       have k4':((1024:Int)≤(acc.length:Int))=False:=eq_false (by omega)
       have key:∀(b:Bool) (md:Nat),decide ((s[j+k]?.map UInt8.toNat)=some 40)=b→(∀(R:Option (Ex×List AV×aa)),R=er 0 0 (aT (ak (aw (a8 ki) (n+1)) (n+1) et) dO 0 m (yM (.str s) (.vec 0 0 (acc++[(⟨kd,tx,nm,b,j⟩:Tok)]).length 5 (acc++[(⟨kd,tx,nm,b,j⟩:Tok)]).length) (.int .i64 (j+k:Nat))) ⟨1,[.row (cw (acc++[(⟨kd,tx,nm,b,j⟩:Tok)]))],0,md⟩)→
        Il (ml f s (j+k+bO (s.length+1) (s.drop (j+k))) (acc++[(⟨kd,tx,nm,decide ((s[j+k]?.map UInt8.toNat)=some 40),j⟩:Tok)])) s R):=fun b md hb R hR=>by
        rw[hR,hb];exact tq n s hl hn m f (acc++[⟨kd,tx,nm,b,j⟩]) (j+k) md (by simp) (by simp<;>omega) (by omega) (by omega) (by omega)
       have tkc:∀b:Bool,cw (acc++[(⟨kd,tx,nm,b,j⟩:Tok)])=cw acc++[.int .i64 kd,.str tx,.int .i64 nm,.bool b,.int .i64 j]:=fun b=>nB _ _
       have hf2:∀b:Bool,AV.af (cw acc++[.int .i64 kd,.str tx,.int .i64 nm,.bool b,.int .i64 j])=0:=fun b=>by rw[←tkc];exact jD _
       have hopn:(s[j+k]? =none∧((j:Int)+(k:Int) < (s.length:Int))=False)∨∃d,s[j+k]? =some d∧((j:Int)+(k:Int) < (s.length:Int))=True:=by
        by_cases hx:j+k < s.length
        ·exact .inr ⟨s[j+k],List.getElem?_eq_getElem hx,eq_true (by omega)⟩
        ·exact .inl ⟨List.getElem?_eq_none (by omega),eq_false (by omega)⟩
       rcases hopn with⟨x1,x2⟩ | ⟨d,x1,x2⟩
       ·refine key false 0 (by simp[x1]) _ ?_;simp only[tkc,List.length_append,List.length_cons,List.length_nil,Nat.zero_add,Int.natCast_add,ki];simp[ki,et,dO,dz,bp,hf,h8,h9,h10,h11,au,bj,cU,h1,h3,h6,qb,h37',q1,n0,n2,k4',hf2,x2]
       ·by_cases k40:d.toNat=40
        ·have k40':((d.toNat:Int)=40)=True:=eq_true (by omega);refine key true 0 (by simp[x1,k40]) _ ?_;simp only[tkc,List.length_append,List.length_cons,List.length_nil,Nat.zero_add,Int.natCast_add,ki];simp[ki,et,dO,dz,bp,hf,h8,h9,h10,h11,au,bj,cU,h1,h3,h6,qb,h37',q1,n0,n2,k4',hf2,x1,x2,k40']
        ·have k40':((d.toNat:Int)=40)=False:=eq_false (by omega);refine key false 0 (by simp[x1,k40]) _ ?_;simp only[tkc,List.length_append,List.length_cons,List.length_nil,Nat.zero_add,Int.natCast_add,ki];simp[ki,et,dO,dz,bp,hf,h8,h9,h10,h11,au,bj,cU,h1,h3,h6,qb,h37',q1,n0,n2,k4',hf2,x1,x2,k40']
    ·rw[if_pos e1];refine⟨min md 1,.inr ⟨e1,rfl,?_⟩⟩;unfold dE at q1;rw[if_pos e1] at q1;by_cases kd4:kd=4
     ·rw[if_pos kd4] at q1;simp only[bp,Int.natCast_add] at q1;simp[ki,et,dO,dz,bp,hf,h8,h9,h10,h11,au,bj,cU,h1,h3,h6,qb,h37',q1,e1]
     ·rw[if_neg kd4] at q1;simp only[bp,jm] at q1;simp[ki,et,dO,dz,bp,hf,h8,h9,h10,h11,au,bj,cU,h1,h3,h6,qb,h37',q1,e1]
theorem uS (n:Nat) (s:List UInt8) (hl:s.length≤4096) (hn:s.length < n):∀(m f:Nat) (j md:Nat),j≤s.length→s.length - j < f→s.length - j < m→
 Il (ml f s (j+bO (s.length+1) (s.drop j)) []) s (er 0 0 (aT (ak (aw (a8 ki) (n+1)) (n+1) et) dO 0 m (yM (.str s) .ax (.int .i64 j)) ⟨0,[],0,md⟩))
 | 0,f,j,md,hk,hf0,hm=>by omega
 | m+1,f,j,md,hk,hf0,hm=>by
   rw[ae];by_cases he:j=s.length
   ·have h6:((j:Int) < (s.length:Int))=False:=eq_false (by omega);have hd:s.drop j=[]:=by rw[he];exact List.drop_length
    rw[hd,show bO (s.length+1) []=0 from rfl,Nat.add_zero];obtain⟨f,rfl⟩:∃f',f=f'+1:=⟨f - 1,by omega⟩
    unfold ml;rw[if_pos (by omega)];refine⟨md,.inl ⟨rfl,rfl,?_⟩⟩;unfold vK hK;simp[ki,et,dO,dz,bp,au,bj,cU,h6,he]
   ·have hjl:j < s.length:=by omega
    have h6:((j:Int) < (s.length:Int))=True:=eq_true (by omega);obtain⟨c,h1,hd⟩:=dR (s:=s) (k:=j) hjl;have h3:IntKind.i64.wrap ((j:Int)+1)=(j:Int)+1:=wrap_i64 (by omega) (by omega);have qb:=rH c;by_cases hb:iz c=true
    ·rw[hb] at qb
     have e:bO (s.length+1) (s.drop j)=bO (s.length+1) (s.drop (j+1))+1:=by
      rw[hd];conv=>lhs;unfold bO
      rw[if_pos hb,qu (s.drop (j+1)) s.length (s.length+1) (by rw[List.length_drop];omega) (by rw[List.length_drop];omega)]
     have ih:=uS n s hl hn m f (j+1) md (by omega) (by omega) (by omega);rw[e,show j+(bO (s.length+1) (s.drop (j+1))+1)=j+1+bO (s.length+1) (s.drop (j+1)) by omega];simp only[Int.natCast_add,Int.natCast_one,ki] at ih;simp[ki,et,dO,dz,bp,au,bj,cU,h1,h3,h6,qb];exact ih
    have hb':iz c=false:=by simpa using hb
    rw[hb'] at qb;by_cases h37:c.toNat=37
    ·have h37':((c.toNat:Int)=37)=True:=eq_true (by omega);have hr:=gN eE (s.drop j);rw[List.length_drop] at hr;have hr1:1≤runN eE (s.drop j):=by rw[hd];exact mL (by unfold eE;simp[h37])
     have e:bO (s.length+1) (s.drop j)=runN eE (s.drop j)+bO (s.length+1) (s.drop (j+runN eE (s.drop j))):=by
      rw[hd];conv=>lhs;unfold bO
      rw[if_neg hb,if_pos h37,←hd,List.drop_drop,qu (s.drop (j+runN eE (s.drop j))) s.length (s.length+1) (by rw[List.length_drop];omega) (by rw[List.length_drop];omega)]
     have ih:=uS n s hl hn m f (j+runN eE (s.drop j)) md (by omega) (by omega) (by omega);have lp:=fun md=>Iv n s (by omega) (s.drop j) (s.take j) (n+1) md (List.take_append_drop j s).symm (by rw[List.length_drop];omega)
     rw[e,←Nat.add_assoc];rw[show (s.take j).length=j by rw[List.length_take];omega] at lp;generalize runN eE (s.drop j)=q at *;simp only[Int.natCast_add,ki,CU,dz] at ih lp;simp[ki,et,dO,dz,bp,au,bj,cU,h1,h3,h6,qb,h37',lp];exact ih
    have h37':((c.toNat:Int)=37)=False:=eq_false (by omega)
    have e0:bO (s.length+1) (s.drop j)=0:=by
     rw[hd];unfold bO;rw[if_neg hb,if_neg h37]
    rw[e0,Nat.add_zero];obtain⟨f,rfl⟩:∃f',f=f'+1:=⟨f - 1,by omega⟩
    unfold ml;rw[if_neg (by omega)];have q1:=EH s j (by omega) hjl;obtain⟨b1,b2⟩:=nk (s.drop j);rw[List.length_drop] at b1;generalize gJ (s.drop j)=O at *;obtain⟨⟨kd,tx,nm,op,a0⟩,k,e⟩:=O;dsimp only at b1 b2 ⊢;by_cases e1:e=0
    ·subst e1;rw[if_neg (by simp)];have hk1:=b2 rfl;by_cases hlong:(kd=1∨kd=2)∧64 < tx.length
     ·rw[if_pos (.inl hlong)]
      have q2:dE j (⟨kd,tx,nm,op,a0⟩,k,0)=.tuple [bp jm,.int .i64 0,.int .i64 3]:=by
       unfold dE;rw[if_neg (by simp),if_pos hlong]
      rw[q2] at q1;simp only[bp,jm] at q1;refine⟨0,.inr ⟨by simp,rfl,?_⟩⟩;simp[ki,et,dO,dz,bp,au,bj,cU,h1,h3,h6,qb,h37',q1]
     ·have q2:dE j (⟨kd,tx,nm,op,a0⟩,k,0)=.tuple [bp ⟨kd,tx,nm,op,a0⟩,.int .i64 (j+k:Nat),.int .i64 0]:=by
       unfold dE;rw[if_neg (by simp),if_neg hlong]
      rw[q2] at q1;simp only[bp,Int.natCast_add] at q1;by_cases h1024:([]:List Tok).length=1024
      ·rw[if_pos (.inr h1024)];exact absurd h1024 (by simp)


      ·rw[if_neg (by rintro (h | h);exact hlong h;exact h1024 h)];have n0:(0≤(j:Int)+(k:Int))=True:=eq_true (by omega);have n2:((j:Int)+(k:Int)).toNat=j+k:=by omega
       have k4':True:=trivial
       have key:∀(b:Bool) (md:Nat),decide ((s[j+k]?.map UInt8.toNat)=some 40)=b→(∀(R:Option (Ex×List AV×aa)),R=er 0 0 (aT (ak (aw (a8 ki) (n+1)) (n+1) et) dO 0 m (yM (.str s) (.vec 0 0 ([]++[(⟨kd,tx,nm,b,j⟩:Tok)]).length 5 ([]++[(⟨kd,tx,nm,b,j⟩:Tok)]).length) (.int .i64 (j+k:Nat))) ⟨1,[.row (cw ([]++[(⟨kd,tx,nm,b,j⟩:Tok)]))],0,md⟩)→
        Il (ml f s (j+k+bO (s.length+1) (s.drop (j+k))) ([]++[(⟨kd,tx,nm,decide ((s[j+k]?.map UInt8.toNat)=some 40),j⟩:Tok)])) s R):=fun b md hb R hR=>by
        rw[hR,hb];exact tq n s hl hn m f ([]++[⟨kd,tx,nm,b,j⟩]) (j+k) md (by simp) (by simp<;>omega) (by omega) (by omega) (by omega)
       have tkc:∀b:Bool,cw ([]++[(⟨kd,tx,nm,b,j⟩:Tok)])=cw []++[.int .i64 kd,.str tx,.int .i64 nm,.bool b,.int .i64 j]:=fun b=>nB _ _
       have hf2:∀b:Bool,AV.af (cw []++[.int .i64 kd,.str tx,.int .i64 nm,.bool b,.int .i64 j])=0:=fun b=>by rw[←tkc];exact jD _
       have hopn:(s[j+k]? =none∧((j:Int)+(k:Int) < (s.length:Int))=False)∨∃d,s[j+k]? =some d∧((j:Int)+(k:Int) < (s.length:Int))=True:=by
        by_cases hx:j+k < s.length
        ·exact .inr ⟨s[j+k],List.getElem?_eq_getElem hx,eq_true (by omega)⟩
        ·exact .inl ⟨List.getElem?_eq_none (by omega),eq_false (by omega)⟩
       rcases hopn with⟨x1,x2⟩ | ⟨d,x1,x2⟩
       ·refine key false 0 (by simp[x1]) _ ?_;simp only[tkc,List.length_append,List.length_cons,List.length_nil,Nat.zero_add,Int.natCast_add,cw,List.flatMap_nil,List.flatMap_cons,List.append_nil,Tok.cells,List.nil_append,ki];simp[ki,et,dO,dz,bp,au,bj,cU,h1,h3,h6,qb,h37',q1,n0,n2,k4',x2]
       ·by_cases k40:d.toNat=40
        ·have k40':((d.toNat:Int)=40)=True:=eq_true (by omega);refine key true 0 (by simp[x1,k40]) _ ?_;simp only[tkc,List.length_append,List.length_cons,List.length_nil,Nat.zero_add,Int.natCast_add,cw,List.flatMap_nil,List.flatMap_cons,List.append_nil,Tok.cells,List.nil_append,ki];simp[ki,et,dO,dz,bp,au,bj,cU,h1,h3,h6,qb,h37',q1,n0,n2,k4',x1,x2,k40']
        ·have k40':((d.toNat:Int)=40)=False:=eq_false (by omega);refine key false 0 (by simp[x1,k40]) _ ?_;simp only[tkc,List.length_append,List.length_cons,List.length_nil,Nat.zero_add,Int.natCast_add,cw,List.flatMap_nil,List.flatMap_cons,List.append_nil,Tok.cells,List.nil_append,ki];simp[ki,et,dO,dz,bp,au,bj,cU,h1,h3,h6,qb,h37',q1,n0,n2,k4',x1,x2,k40']
    ·rw[if_pos e1];refine⟨0,.inr ⟨e1,rfl,?_⟩⟩;unfold dE at q1;rw[if_pos e1] at q1;by_cases kd4:kd=4
     ·rw[if_pos kd4] at q1;simp only[bp,Int.natCast_add] at q1;simp[ki,et,dO,dz,bp,au,bj,cU,h1,h3,h6,qb,h37',q1,e1]
     ·rw[if_neg kd4] at q1;simp only[bp,jm] at q1;simp[ki,et,dO,dz,bp,au,bj,cU,h1,h3,h6,qb,h37',q1,e1]
theorem Me (s:List UInt8):∃h',aw (a8 ki) (s.length+4) 67 [.str s] h0=some (lL (od s),h')∧(lL (od s)).refs=0:=by
 have hrefs:∀r:List Tok×Int×Int,(lL r).refs=0:=fun r=>by simp[lL,AV.refs,AV.af,zy]
 refine Exists.elim ?_ fun h' hh=>⟨h',hh,hrefs _⟩
 unfold od;by_cases hl:4096 < s.length
 ·have h1:((4096:Int) < (s.length:Int))=True:=eq_true (by omega);rw[if_pos hl];exact⟨_,by simp[ki,Jg,Te,h1,lL,oj,bj,cU];with_reducible rfl⟩
 have h1:((4096:Int) < (s.length:Int))=False:=eq_false (by omega);rw[if_neg hl];have lp:=uS (s.length+2) s (by omega) (by omega) (s.length+3) (s.length+1) 0 0 (by omega) (by omega) (by omega);rw[List.drop_zero,Nat.zero_add] at lp;generalize ml (s.length+1) s (bO (s.length+1) s) []=R at *;obtain⟨l,at_,e⟩:=R;simp only[ki,dO,yM,Int.natCast_zero] at lp;obtain⟨md,⟨e1,e2,e3⟩ | ⟨e1,e2,e3⟩⟩:=lp
 ·dsimp only at e1 e2 e3;subst e1 e2
  cases l with
  | nil=>
    simp only[vK,hK] at e3;exact⟨_,by simp[ki,Jg,Te,dO,h1,lL,oj,bj,cU,e3];with_reducible rfl⟩
  | cons t r=>
    simp only[vK,hK] at e3;have fk:∀d,gr ⟨1,[.row (cw (t::r))],0,md⟩ 0 (d+2) (.vec 0 0 (r.length+1) 5 (r.length+1))=some (.sl ((t::r).map Tok.enc),[0]):=fun d=>R4 t r (Nat.le_refl 0) rfl
    have rf:=AM (t::r);rw[List.map_cons,AV.af] at rf;exact⟨_,by simp[ki,Jg,Te,dO,h1,lL,oj,bj,cU,e3,fk,rf,-jZ];with_reducible rfl⟩
 ·dsimp only at e1 e2 e3;subst e2;exact⟨_,by simp[ki,Jg,Te,dO,h1,lL,oj,bj,cU,e3];with_reducible rfl⟩
noncomputable def D7:ai:=⟨67,fun
 | [.str s]=>some (lL (od s))
 | _=>none⟩
theorem p7:D7.f=67:=(rfl)
theorem NT (s:List UInt8):D7.S [.str s]=some (lL (od s)):=(rfl)
theorem NB:az Tryz.prog D7:=fun args v hv=>by
 unfold D7 at hv ⊢;dsimp only at hv ⊢;split at hv
 ·rename_i s;cases hv;obtain⟨h',e,hr⟩:=Me s;exact aH (aG Tc) e hr (by simp[AV.refs,AV.af])
 ·cases hv
def gL:ai:=⟨129,fun
 | [.str s]=>some (.bool (fY s))
 | _=>none⟩
theorem aO:gL.f=129:=(rfl)
theorem rV (s:List UInt8):gL.S [.str s]=some (.bool (fY s)):=(rfl)
theorem rr:ck Tryz.prog dm gL:=fun args v hv=>by
 unfold gL at hv ⊢;dsimp only at hv ⊢;split at hv
 ·rename_i s;cases hv;refine aH (n:=5) (h':=h0) (gQ (ss:=[D7]) (by simp[NB.lift])) ?_ (by simp[AV.refs]) (by simp[AV.refs,AV.af]);have q:=NT s;have hn:=F3 (s.length+1) s (bO (s.length+1) s) []
  have hn':(od s).2.2≠0→(od s).1=[]:=by
   unfold od;split
   ·exact fun _=>rfl
   ·exact hn
  unfold fY;generalize od s=R at *;obtain⟨l,a,e⟩:=R;dsimp only at hn';unfold lL oj at q;by_cases he:e=0
  ·subst he
   cases l with
   | nil=>simp[uU,CV,p7,q]
   | cons t r=>
     cases r with
     | nil=>
       obtain⟨kd,tx,nm,op,at_⟩:=t;simp only[List.map_cons,List.map_nil,Tok.enc,Tok.cells] at q;by_cases k1:kd=1
       ·subst k1;by_cases k2:tx=s
        ·subst k2;simp[uU,CV,p7,q]
        ·have k3:(tx==s)=false:=by simpa using k2
         simp[uU,CV,p7,q,k2,k3]
       ·simp[uU,CV,p7,q,k1]
     | cons t2 r=>
       simp only[List.map_cons] at q;have k1:((r.length:Int)+1+1=1)=False:=eq_false (by omega);simp[uU,CV,p7,q,k1]
  ·obtain rfl:l=[]:=hn' he;simp[uU,CV,p7,q,he]
 ·cases hv
def Rx (q:Option (List UInt8)) (R:Option (Ex×List AV×aa)):Prop:=
 (∃t,q=some t∧t.length≤1000∧R=some (.exit 0,FM 62 [(3,.str t)],⟨0,[],0,0⟩))∨
  (q=none∧R=some (.ret,FM 62 [(2,.str [])],⟨0,[],0,0⟩))
noncomputable def EE:List ai:=[gL]
theorem EI (n:Nat) (s:List UInt8) (hl:s.length≤64):∀(post pre acc:List UInt8) (m:Nat),s=pre++post→acc.length≤2*pre.length+1→post.length < m→
 Rx (oq post acc) (er 0 0 (aT (ak (aw (a8 EE) (n+1)) (n+1) lf) jc 0 m (FZ (.str s) (.str acc) (.int .i64 pre.length)) ⟨0,[],0,0⟩))
 | _,_,_,0,_,_,h=>by omega
 | [],pre,acc,m+1,hs,hac,hm=>by
   rw[ae];rw[List.append_nil] at hs;subst hs;refine .inl ⟨acc,rfl,by omega,?_⟩;simp[EE,lf,jc]
 | c::r,pre,acc,m+1,hs,hac,hm=>by
   rw[ae];have hps:pre.length+r.length+1=s.length:=by rw[hs];simp;omega
   have h9:acc.length+1 < 9223372036854775808:=by omega
   have h9b:acc.length+2 < 9223372036854775808:=by omega
   have h9c:acc.length+1+1 < 9223372036854775808:=by omega
   have h6:((pre.length:Int) < (s.length:Int))=True:=eq_true (by omega);have h1:s[pre.length]? =some c:=by rw[hs];simp
   have h3:IntKind.i64.wrap ((pre.length:Int)+1)=(pre.length:Int)+1:=wrap_i64 (by omega) (by omega);obtain⟨sl1,sl2⟩:=px (s:=s) (X:=(pre.length:Int)) (k:=pre.length) rfl h1
   have hcut:∀(t:List UInt8),t.length≤acc.length+2→∀R,R=(er 0 0 (aT (ak (aw (a8 [gL]) (n+1)) (n+1) lf) jc 0 m (FZ (.str s) (.str t) (.int .i64 ((pre.length:Int)+1))) ⟨0,[],0,0⟩))→Rx (oq r t) R:=fun t ht R hR=>by
    have ih:=EI n s hl r (pre++[c]) t m (by rw[hs];simp) (by simp;omega) (by simp at hm;omega);simp only[List.length_append,List.length_cons,List.length_nil,Nat.zero_add,Int.natCast_add,Int.natCast_one,EE] at ih;rw[hR];exact ih
   by_cases k1:c.toNat=10
   ·have k1':((c.toNat:Int)=10)=True:=eq_true (by omega);have e:nY c=some 110:=by unfold nY;rw[if_pos k1]
    rw[uZ e];refine hcut _ (by simp) _ ?_;simp[EE,lf,jc,aO,h9,h9b,h1,h3,h6,sl1,sl2,k1']
   have k1':((c.toNat:Int)=10)=False:=eq_false (by omega);by_cases k2:c.toNat=9
   ·have k2':((c.toNat:Int)=9)=True:=eq_true (by omega);have e:nY c=some 116:=by unfold nY;rw[if_neg k1,if_pos k2]
    rw[uZ e];refine hcut _ (by simp) _ ?_;simp[EE,lf,jc,aO,h9,h9b,h1,h3,h6,sl1,sl2,k1',k2']
   have k2':((c.toNat:Int)=9)=False:=eq_false (by omega);by_cases k3:c.toNat=92
   ·have k3':((c.toNat:Int)=92)=True:=eq_true (by omega);have e:nY c=some c:=by unfold nY;rw[if_neg k1,if_neg k2,if_pos k3];exact congrArg some (UInt8.toNat_inj.1 (by rw[k3];rfl))
    rw[uZ e];refine hcut _ (by simp) _ ?_;simp[EE,lf,jc,aO,h9,h9b,h1,h3,h6,sl1,sl2,h9c,k1',k2',k3']
   have k3':((c.toNat:Int)=92)=False:=eq_false (by omega);by_cases k4:c.toNat=39
   ·have k4':((c.toNat:Int)=39)=True:=eq_true (by omega);have e:nY c=some c:=by unfold nY;rw[if_neg k1,if_neg k2,if_neg k3,if_pos k4];exact congrArg some (UInt8.toNat_inj.1 (by rw[k4];rfl))
    rw[uZ e];refine hcut _ (by simp) _ ?_;simp[EE,lf,jc,aO,h9,h9b,h1,h3,h6,sl1,sl2,h9c,k1',k2',k3',k4']
   have k4':((c.toNat:Int)=39)=False:=eq_false (by omega);have e:nY c=none:=by unfold nY;rw[if_neg k1,if_neg k2,if_neg k3,if_neg k4]
   by_cases k5:c.toNat < 32∨126 < c.toNat
   ·rw[Hy e k5];refine .inr ⟨rfl,?_⟩;by_cases k6:c.toNat < 32
    ·have k6':((c.toNat:Int) < 32)=True:=eq_true (by omega);simp[EE,lf,jc,aO,h9,h9b,h1,h3,h6,sl1,sl2,k1',k2',k3',k4',k6']
    ·have k6':((c.toNat:Int) < 32)=False:=eq_false (by omega);have k7':(126 < (c.toNat:Int))=True:=eq_true (by omega);simp[EE,lf,jc,aO,h9,h9b,h1,h3,h6,sl1,sl2,k1',k2',k3',k4',k6',k7']
   ·have k6':((c.toNat:Int) < 32)=False:=eq_false (by omega);have k7':(126 < (c.toNat:Int))=False:=eq_false (by omega);rw[HZ e k5];refine hcut _ (by simp) _ ?_;simp[EE,lf,jc,aO,h9,h9b,h1,h3,h6,sl1,sl2,k1',k2',k3',k4',k6',k7']
noncomputable def gf:ai:=⟨95,fun
 | [.str s]=>some (.str (cb s))
 | _=>none⟩
theorem aP:gf.f=95:=(rfl)
theorem n5 (s:List UInt8):gf.S [.str s]=some (.str (cb s)):=(rfl)
theorem rD:ck Tryz.prog dm gf:=fun args v hv=>by
 unfold gf at hv ⊢;dsimp only at hv ⊢;split at hv
 ·rename_i s;cases hv;refine aH (n:=102) (h':=h0) (gQ (ss:=EE) (by simp[EE,rr])) ?_ (by simp[AV.refs]) (by simp[AV.refs,AV.af]);have q:=rV s;unfold cb
  cases hp:fY s with
  | true=>
    rw[hp] at q;simp[EE,IS,TD,aO,q]
  | false=>
    rw[hp] at q;simp only[Bool.false_eq_true,if_false];by_cases hl:64 < s.length
    ·have hl':((64:Int) < (s.length:Int))=True:=eq_true (by omega);rw[if_pos hl];simp[EE,IS,TD,aO,q,hl']
    ·have hl':((64:Int) < (s.length:Int))=False:=eq_false (by omega);rw[if_neg hl];have lp:=EI 100 s (by omega) s [] [39] 101 rfl (by simp) (by omega);simp only[EE,FZ,jc,List.length_nil,Int.natCast_zero] at lp;obtain⟨t,e3,htl,e4⟩ | ⟨e3,e4⟩:=lp
     ·rw[e3];have h9:t.length+1 < 9223372036854775808:=by omega
      simp[EE,IS,TD,jc,aO,q,hl',e4,h9]
     ·rw[e3];simp[EE,IS,TD,jc,aO,q,hl',e4]
 ·cases hv
def F1:AV→Option Int
 | .int .i64 n=>some n
 | _=>none
def nu:List AV→Option (List Int)
 | []=>some []
 | v::r=>match F1 v,nu r with
   | some n,some l=>some (n::l)
   | _,_=>none
def ft:AV→Option (List Int)
 | .ax=>some []
 | .sl xs=>nu xs
 | _=>none
theorem uc:∀l:List Int,nu (ints l)=some l
 | []=>rfl
 | n::r=>by
   have:=uc r;unfold ints at this ⊢;simp[nu,F1,this]
theorem wa:∀{xs:List AV} {l:List Int},nu xs=some l→xs=ints l
 | [],l,h=>by simp[nu] at h;subst h;rfl
 | v::r,l,h=>by
   unfold nu at h;split at h
   ·rename_i n q h1 h2;cases h
    have e:v=.int .i64 n:=by
     unfold F1 at h1;split at h1
     ·cases h1;rfl
     ·cases h1
    rw[e,wa h2];rfl
   ·cases h
theorem qj {y:AV} {l:List Int} (h:ft y=some l):(y=.ax∧l=[])∨y=.sl (ints l):=by
 cases y<;>simp[ft] at h
 ·exact .inl ⟨rfl,h⟩
 ·exact .inr (by rw[wa h])
theorem n8 {y:AV} {l:List Int} (h:ft y=some l):y.refs=0:=by
 rcases qj h with⟨rfl,_⟩ | rfl
 ·rfl
 ·simp[AV.refs,cd]
theorem lT (l:List Int):ft (eD l)=some l:=by
 cases l with
 | nil=>rfl
 | cons n r=>exact uc (n::r)
structure Dw where
 T:List aF
 vs:List Int
def z6:List aC→Option Dw
 | [.row [x,y]]=>(match a6 x,ft y with
   | some T,some vs=>if T.length < 1000000∧vs.length < 100000 then some ⟨T,vs⟩ else none
   | _,_=>none)
 | _=>none
theorem nc {os:List aC} {D:Dw} (h:z6 os=some D):∃x y,a6 x=some D.T∧ft y=some D.vs∧os=[.row [x,y]]∧D.T.length < 1000000∧D.vs.length < 100000:=by
 unfold z6 at h;split at h
 ·rename_i x y;split at h
  ·rename_i T vs h1 h2;split at h
   ·rename_i hc;cases h;exact⟨x,y,h1,h2,rfl,hc.1,hc.2⟩
   ·cases h
  ·cases h
 ·cases h
theorem lM {x y:AV} {T:List aF} {vs:List Int} (hx:a6 x=some T) (hy:ft y=some vs) (hT:T.length < 1000000) (hv:vs.length < 100000):z6 [.row [x,y]]=some ⟨T,vs⟩:=by
 simp only[z6,hx,hy];rw[if_pos ⟨hT,hv⟩]
theorem u0 {X:World→Prop} {E:Env} (hE:dA Tryz.prog X E) {n f:Nat} {rest:List AV} {x y:AV} {T:List aF} {vs:List Int} (hx:a6 x=some T) (hy:ft y=some vs) {v:AV} {m:Nat}
 (he:aw E n f (.ptr 0 0::rest) ⟨1,[.row [x,y]],1,1⟩=some (v,⟨1,[.row [x,y]],1,m⟩)) (hv:v.refs=0) (hr:AV.af rest=0):jL Tryz.prog X f (.ptr 0 0::rest) [.row [x,y]] v none:=
 BA hE he rfl hv hr (by simp[AV.af,bC hx,n8 hy])
theorem fU {x y:AV} {T:List aF} {vs:List Int} (hx:a6 x=some T) (hy:ft y=some vs) (k:Nat):fl [x,y] [k]=[k]:=by
 rcases aD hx with⟨rfl,_⟩ | rfl<;>rcases qj hy with⟨rfl,_⟩ | rfl<;>rfl
theorem jS {x y:AV} {T:List aF} {vs:List Int} (hx:a6 x=some T) (hy:ft y=some vs) (τ:List Nat):okO τ (.row [x,y])=true:=by
 have h1:=bC hx;have h2:=n8 hy;have t1:x.top=none:=rm hx;have t2:y.top=none:=by rcases qj hy with⟨rfl,_⟩ | rfl<;>rfl
 rw[bm];simp only[List.all_cons,List.all_nil,Jk,t1,t2,h1,h2];rfl
theorem hO {x y:AV} {T:List aF} {vs:List Int} (hx:a6 x=some T) (hy:ft y=some vs) (g:Nat→Nat):eL g (.row [x,y])=.row [x,y]:=
 vq g (by simp[AV.af,bC hx,n8 hy])
def LS (n:Int):List Int→Nat→Option Nat
 | [],_=>none
 | v::r,k=>if v=n then some k else LS n r (k+1)
def eS (vs:List Int) (n:Int):List UInt8:=match LS n vs 0 with
 | some k=>[95]++fj (k:Int)
 | none=>[95]
theorem N3 (n:Int):∀(vs:List Int) (k i:Nat),LS n vs k=some i→k≤i∧i < k+vs.length
 | [],k,i,h=>by simp[LS] at h
 | v::r,k,i,h=>by
   unfold LS at h;rw[List.length_cons];split at h
   ·cases h;omega
   ·have:=N3 n r (k+1) i h;omega
theorem ij {vs:List Int} (h:vs.length < 100000) (n:Int):(eS vs n).length≤21:=by
 unfold eS;split
 ·rename_i k hk;have:=N3 n vs 0 k hk;have:=jx (k:Int) (by omega);simp;omega
 ·simp
theorem Sv {vs:List Int} {n:Int} (h:n ∈ vs):eS vs n=iv (j5 vs) n:=by
 have key:∀(vs:List Int) (k:Nat),n ∈ vs→∃i:Nat,LS n vs k=some i∧Ge n (wV k vs)=some (i:Int):=fun vs=>by
  induction vs with
  | nil=>intro k h;simp at h
  | cons v r ih=>
    intro k h;unfold LS wV Ge;by_cases hv:v=n
    ·rw[if_pos hv,if_pos hv.symm];exact⟨k,rfl,rfl⟩
    ·rw[if_neg hv,if_neg (fun e=>hv e.symm)];exact ih (k+1) (by rcases List.mem_cons.1 h with e | e;exact absurd e.symm hv;exact e)
 obtain⟨i,h1,h2⟩:=key vs 0 h;unfold eS iv QA j5;rw[h1,h2];rfl
theorem Bq (n:Nat) (ms:List aU) (hms:lA ms 99=[]) (K s:AV) (x:AV) (num:Int) (a:AV) (ha:a.refs=0) (vs:List Int) (hl:vs.length < 100000):∀(post pre:List Int) (m md:Nat),vs=pre++post→post.length < m→
 ∃md',er 2 1 (aT (ak (aw (cW [lR 20,gf] ms) (n+1)) (n+1) vC) nX 2 m (L5 (.ptr 0 0) (.ptr 1 0) (.int .i64 pre.length)) ⟨2,[.row [K,.int .i64 num,s,a],.row [x,.sl (ints vs)]],2,md⟩)=
   (match LS num post pre.length with
    | some k=>some (.ret,FM 71 [(4,.str ([95]++fj (k:Int)))],⟨2,[.row [K,.int .i64 num,s,a],.row [x,.sl (ints vs)]],1,md'⟩)
    | none=>some (.exit 1,FM 71 [],⟨2,[.row [K,.int .i64 num,s,a],.row [x,.sl (ints vs)]],1,md'⟩))
 | _,_,0,_,_,h=>by omega
 | [],pre,m+1,md,hs,_=>by
   rw[ae];rw[List.append_nil] at hs;subst hs;have hil:(ints vs).length=vs.length:=by simp[ints]
   exact⟨md,by simp[vC,nX,hil,LS]⟩
 | v::r,pre,m+1,md,hs,hm=>by
   rw[ae];have hps:pre.length+r.length+1=vs.length:=by rw[hs];simp;omega
   have h6:((pre.length:Int) < (vs.length:Int))=True:=eq_true (by omega);have hc:(ints vs)[pre.length]? =some (.int .i64 v):=by unfold ints;rw[List.getElem?_map,hs];simp
   have hil:(ints vs).length=vs.length:=by simp[ints]
   have h3:IntKind.i64.wrap ((pre.length:Int)+1)=(pre.length:Int)+1:=wrap_i64 (by omega) (by omega);have q:=pd 20 (pre.length:Int) ⟨by rw[Int.natAbs_natCast];omega,by omega,by omega⟩;have hnl:=jx (pre.length:Int) (by omega);have b1:(fj (pre.length:Int)).length+1 < 9223372036854775808:=by omega
   have b2:1+(fj (pre.length:Int)).length < 9223372036854775808:=by omega
   obtain⟨md',ih⟩:=Bq n ms hms K s x num a ha vs hl r (pre++[v]) m md (by rw[hs];simp) (by simp at hm;omega);simp only[List.length_append,List.length_cons,List.length_nil,Nat.zero_add,Int.natCast_add,Int.natCast_one] at ih;unfold LS;generalize ints vs=I at *;by_cases hv:v=num
   ·rw[if_pos hv];refine⟨md,?_⟩;simp[vC,nX,hil,hc,h3,h6,hv,q,b1,b2,fm,aP,hms]
   ·rw[if_neg hv];refine⟨md',?_⟩;simp[vC,nX,hil,hc,h3,h6,hv,fm,aP];exact ih
def me (c:UInt8):List (List UInt8)→List UInt8
 | []=>[]
 | w::r=>[c]++w++me 44 r
theorem HO (s r:List UInt8) (q:List (List UInt8)) (p:List UInt8):Lib.join (s::r::q) p=s++p++Lib.join (r::q) p:=by simp[Lib.join,List.intercalate,List.intersperse]
theorem join_one (s p:List UInt8):Lib.join [s] p=s:=by simp[Lib.join,List.intercalate]
theorem kN (c:UInt8):∀(r:List (List UInt8)) (w:List UInt8),me c (w::r)=[c]++Lib.join (w::r) [44]
 | [],w=>by rw[join_one];simp[me]
 | s::r,w=>by
   show [c]++w++me 44 (s::r)=_;rw[kN 44 r s,HO];simp
noncomputable def fa (N:Nat):aU:=⟨57,fun
 | [.ptr 0 0,v],os=>(match z6 os,dB v with
   | some D,some t=>if ib t∧t.size < N then some (.str (wF [] false (eS D.vs) t 999 false),none) else none
   | _,_=>none)
 | _,_=>none⟩
theorem a7 (N:Nat):(fa N).f=57:=(rfl)
theorem lS (N:Nat) {x y:AV} {T:List aF} {vs:List Int} (hx:a6 x=some T) (hy:ft y=some vs) (hT:T.length < 1000000) (hv:vs.length < 100000) (t:Tm) (h:ib t∧t.size < N):
 (fa N).S [.ptr 0 0,t.enc] [.row [x,y]]=some (.str (wF [] false (eS vs) t 999 false),none):=by
 simp only[fa,lM hx hy hT hv,aX];rw[if_pos h]
theorem EC (N:Nat) {x y:AV} {T:List aF} {vs:List Int} (hx:a6 x=some T) (hy:ft y=some vs) (hT:T.length < 1000000) (hv:vs.length < 100000) (t:Tm) (h:N≤t.size):
 (fa N).S [.ptr 0 0,t.enc] [.row [x,y]]=none:=by
 simp only[fa,lM hx hy hT hv,aX];rw[if_neg (by omega)]
theorem RS (vr:Int→List UInt8) (t:Tm) (h:ib t):wF [] false vr t 999 false=
 if t.kind=0 then vr t.num else if t.kind=1 then fj t.num else if t.args.length=0 then cb t.name
 else cb t.name++me 40 (t.args.map fun x=>wF [] false vr x 999 false)++[41]:=by
 rw[zx [] false vr t 999 false h];by_cases k0:t.kind=0
 ·rw[if_pos k0,if_pos k0]
 rw[if_neg k0,if_neg k0];by_cases k1:t.kind=1
 ·rw[if_pos k1,if_pos k1];rfl
 rw[if_neg k1,if_neg k1];by_cases k2:t.args.length=0
 ·rw[if_pos k2,if_pos k2];rfl
 rw[if_neg k2,if_neg k2];rw[if_neg (by simp),if_neg (by simp),if_neg (by simp[cZ]),if_neg (by simp[dn])]
 cases ha:t.args with
 | nil=>rw[ha] at k2;simp at k2
 | cons y r=>
   rw[List.map_cons,kN];simp
noncomputable def S4 (N:Nat):List aU:=[fa N]
theorem Bm (n N:Nat) (t:Tm) (K M S:AV) (x yv:AV) (T:List aF) (vs:List Int) (hx:a6 x=some T) (hy:ft yv=some vs) (hT:T.length < 1000000) (hv:vs.length < 100000) (hus:∀y ∈ t.args,ib y∧y.size < N) (hal:t.args.length < 100000):∀(post pre:List Tm) (acc:List UInt8) (m md:Nat),t.args=pre++post→post.length < m→acc.length+150*Tm.aI post≤1000000000→
 ∃md',er 2 1 (aT (ak (aw (cW [lR 20,gf] (S4 N)) (n+1)) (n+1) vJ) o3 2 m (No (.ptr 0 0) (.ptr 1 0) (.str acc) (.int .i64 pre.length)) ⟨2,[.row [K,M,S,t.aJ],.row [x,yv]],2,md⟩)=
   some (.exit 3,FM 71 [(3,.ptr 1 0),(6,.str (acc++me (if pre.length=0 then 40 else 44) (post.map fun y=>wF [] false (eS vs) y 999 false)))],⟨2,[.row [K,M,S,t.aJ],.row [x,yv]],1,md'⟩)
 | _,_,_,0,_,_,h,_=>by omega
 | [],pre,acc,m+1,md,hs,_,_=>by
   rw[ae];rw[List.append_nil] at hs;have hlv:=fB t;have hpl:pre.length=t.args.length:=by rw[hs]
   have h6:((pre.length:Int) < (t.args.length:Int))=False:=eq_false (by omega);exact⟨md,by simp[vJ,o3,hlv,h6,me]⟩
 | y::r,pre,acc,m+1,md,hs,hm,hab=>by
   rw[ae];simp only[Tm.aI] at hab;have hps:pre.length+r.length+1=t.args.length:=by rw[hs];simp;omega
   have hc:t.args[pre.length]? =some y:=by rw[hs];simp
   have hym:y ∈ t.args:=by rw[hs];simp
   have hav:=xu hc;have hye:y.enc=.agg [.int .i64 y.kind,.int .i64 y.num,.str y.name,y.aJ]:=by rw[Tm.ay];rfl
   have hyr:=ah y;have htr:=aB t.args;have hcU:(t.args.map Tm.enc)[pre.length]? =some (.agg [.int .i64 y.kind,.int .i64 y.num,.str y.name,y.aJ]):=by rw[List.getElem?_map,hc];exact congrArg some hye
   have hUl:(t.args.map Tm.enc).length=t.args.length:=List.length_map _;have h3:IntKind.i64.wrap ((pre.length:Int)+1)=(pre.length:Int)+1:=wrap_i64 (by omega) (by omega);have h6:((pre.length:Int) < (t.args.length:Int))=True:=eq_true (by omega);have q:=lS N hx hy hT hv y (hus y hym);have hwl:=eR [] false (eS vs) (ij hv) y 999 false (hus y hym).1;rw[List.map_cons];show ∃md',_=some (Ex.exit 3,FM 71 [(3,.ptr 1 0),(6,.str (acc++([if pre.length=0 then 40 else 44]++wF [] false (eS vs) y 999 false++me 44 (r.map fun y=>wF [] false (eS vs) y 999 false))))],_);generalize wF [] false (eS vs) y 999 false=w at *;obtain⟨md',ih⟩:=Bm n N t K M S x yv T vs hx hy hT hv hus hal r (pre++[y]) (acc++[if pre.length=0 then 40 else 44]++w) m md (by rw[hs];simp) (by simp at hm;omega) (by simp;omega);refine⟨md',?_⟩;have ht:=fU hx hy;have hok:=jS hx hy;have hsg:=hO hx hy;have b1:acc.length+1 < 9223372036854775808:=by omega
   have b2:acc.length+1+w.length < 9223372036854775808:=by omega
   have b3:acc.length+(w.length+1) < 9223372036854775808:=by omega
   have e0:(if (pre++[y]).length=0 then (40:UInt8) else 44)=44:=by simp
   rw[e0] at ih;rw[hye] at q;rw[hav] at ih ⊢;simp only[List.length_append,List.length_cons,List.length_nil,Nat.zero_add,Int.natCast_add,Int.natCast_one,List.append_assoc,S4] at ih ⊢;generalize t.args.map Tm.enc=U at *;by_cases hp:pre.length=0
   ·have hp':(pre=[])=True:=eq_true (List.length_eq_zero_iff.1 hp);rw[if_pos hp] at ih ⊢;simp[vJ,o3,hcU,hUl,h3,h6,hp',hyr,htr,q,ht,hok,hsg,-aN,-bm,-aY,b1,b2,b3,fm,aP,a7];simp only[List.append_assoc,List.cons_append,List.nil_append] at ih;exact ih
   ·have hp':(pre=[])=False:=eq_false (fun e=>hp (by rw[e];rfl));rw[if_neg hp] at ih ⊢;simp[vJ,o3,hcU,hUl,h3,h6,hp',hyr,htr,q,ht,hok,hsg,-aN,-bm,-aY,b1,b2,b3,fm,aP,a7];simp only[List.append_assoc,List.cons_append,List.nil_append] at ih;exact ih
theorem GV (N:Nat) (x y:AV) (T:List aF) (vs:List Int) (hx:a6 x=some T) (hy:ft y=some vs) (hT:T.length < 1000000) (hv:vs.length < 100000) (t:Tm) (hok:ib t) (hsN:t.size=N):
 ∃m,aw (cW [lR 20,gf] (S4 N)) 200000 57 [.ptr 0 0,t.enc] ⟨1,[.row [x,y]],1,1⟩=some (.str (wF [] false (eS vs) t 999 false),⟨1,[.row [x,y]],1,m⟩):=by
 rw[RS (eS vs) t hok];have qno:=EC N hx hy hT hv t (by omega);have hxr:=bC hx;have hyr:=n8 hy;have har:=ah t;have hlv:=fB t;have hs:=aM t;have hg:=hok.1;simp only[dp,Bool.and_eq_true,decide_eq_true_eq] at hg;have hnm:=ln hok;have hq:=fK hnm;have hte:t.enc=.agg [.int .i64 t.kind,.int .i64 t.num,.str t.name,t.aJ]:=by rw[Tm.ay];rfl
 have ht:=fU hx hy;have hro:=jS hx hy;have hsg:=hO hx hy;rw[hte] at qno ⊢;simp only[S4];by_cases k0:t.kind=0
 ·rw[if_pos k0];rw[k0] at qno ⊢;unfold eS;rcases qj hy with⟨rfl,rfl⟩ | rfl
  ·exact⟨1,by simp[u7,Ql,nX,vC,ae,fm,aP,a7,qno,dy,ht,hro,hsg,-aN,-bm,-aY,har,ag,LS]⟩
  ·obtain⟨md',lp⟩:=Bq 199998 [fa N] (by simp[ox,yP,a7]) (.int .i64 0) (.str t.name) x t.num t.aJ har vs hv vs [] 199999 1 rfl (by omega);simp only[nX,L5,List.length_nil,Int.natCast_zero] at lp;generalize ints vs=I at *;refine⟨if md' < 1 then min 1 md' else 1,?_⟩
   cases hix:LS t.num vs 0 with
   | none=>
     rw[hix] at lp;simp[u7,Ql,nX,fm,aP,a7,qno,dy,ht,hro,hsg,-aN,-bm,-aY,har,ag,lp]
   | some k=>
     rw[hix] at lp;simp[u7,Ql,nX,fm,aP,a7,qno,dy,ht,hro,hsg,-aN,-bm,-aY,har,ag,lp]
 rw[if_neg k0];by_cases k1:t.kind=1
 ·rw[if_pos k1];rw[k1] at qno ⊢;have hr:=xa hok;have q:=pd 20 t.num ⟨by omega,hr⟩;exact⟨1,by simp[u7,Ql,fm,aP,a7,qno,dy,ht,hro,hsg,-aN,-bm,-aY,har,ag,q]⟩
 rw[if_neg k1];have q:=n5 t.name;by_cases k2:t.args.length=0
 ·rw[if_pos k2];have k2':((t.args.length:Int)=0)=True:=eq_true (by omega);have k3':(0 < (t.args.length:Int))=False:=eq_false (by omega);exact⟨1,by simp[u7,Ql,o3,vJ,ae,fm,aP,a7,qno,dy,ht,hro,hsg,-aN,-bm,-aY,har,ag,q,k0,k1,k2,hlv]⟩
 rw[if_neg k2];have hsub:∀y ∈ t.args,ib y∧y.size < N:=fun y hy=>⟨dI hok hy,by have:=iV hy;omega⟩
 have hla:=ct t.args;obtain⟨md',lp⟩:=Bm 199998 N t (.int .i64 t.kind) (.int .i64 t.num) (.str t.name) x y T vs hx hy hT hv hsub (by omega) t.args [] (cb t.name) 199999 1 rfl (by omega) (by omega);have k3':(0 < t.args.length)=True:=eq_true (by omega)
 have hjl:(me 40 (t.args.map fun y=>wF [] false (eS vs) y 999 false)).length≤150*Tm.aI t.args+1:=by
  cases ha:t.args with
  | nil=>rw[ha] at k2;simp at k2
  | cons a r=>
    rw[List.map_cons,kN];have j1:=iU [44] ((a::r).map fun y=>wF [] false (eS vs) y 999 false);have j2:=n7 (f:=fun y=>(wF [] false (eS vs) y 999 false).length) (a::r) (fun z hz=>eR [] false (eS vs) (ij hv) z 999 false (hsub z (by rw[ha];exact hz)).1);rw[List.map_map] at j1;have j4:(Lib.join ((a::r).map fun y=>wF [] false (eS vs) y 999 false) [44]).length≤150*Tm.aI (a::r):=Nat.le_trans j1 j2;rw[List.map_cons] at j4;simp only[List.length_append,List.length_cons,List.length_nil] at j4 ⊢;omega
 simp only[o3,No,List.length_nil,if_true,Int.natCast_zero,S4] at lp;generalize me 40 (t.args.map fun y=>wF [] false (eS vs) y 999 false)=J at *;generalize cb t.name=Q at *;have b1:Q.length+J.length+1 < 9223372036854775808:=by omega
 have b2:Q.length+(J.length+1) < 9223372036854775808:=by omega
 exact⟨if md' < 1 then min 1 md' else 1,by simp[u7,Ql,o3,fm,aP,a7,qno,dy,ht,hro,hsg,-aN,-bm,-aY,har,ag,q,k0,k1,hlv,lp,k3',b1,b2]⟩
theorem nz:∀N,ch Tryz.prog dm (fa N)
 | 0=>fun args os v r hv=>by
   unfold fa at hv;dsimp only at hv;split at hv
   ·split at hv
    ·split at hv
     ·rename_i hc;exact absurd hc.2 (by omega)
     ·cases hv
    ·cases hv
   ·cases hv
 | N+1=>fun args os v r hv=>by
   have hN:=nz N;unfold fa at hv;dsimp only at hv;split at hv
   ·rename_i v0 os;split at hv
    ·rename_i D t hD ht;split at hv
     ·rename_i hc;cases hv;obtain⟨x,y,hx,hy,rfl,hT,hvl⟩:=nc hD;rw[bc ht];by_cases hlt:t.size < N
      ·exact hN _ _ _ _ (lS N hx hy hT hvl t ⟨hc.1,hlt⟩)
      ·obtain⟨T,vs⟩:=D;dsimp only at hx hy hT hvl ⊢;rw[a7];have hE:dA Tryz.prog dm (cW [lR 20,gf] (S4 N)):=dv (by simp[(Ay 20).lift,rD]) (by simp[S4,hN]);obtain⟨m,e⟩:=GV N x y T vs hx hy hT hvl t hc.1 (by omega);exact u0 hE hx hy e (by simp[AV.refs]) (by simp[AV.af,Tm.ba])
     ·cases hv
    ·cases hv
   ·cases hv
def lK (T:List aF) (t:Tm):Int:=if (cZ T true t).2 then (cZ T true t).1.l else if (dn T true t).2 then (dn T true t).1.l else 0
def Al (T:List aF) (t:Tm):Bool:=decide (t.args.length=2)&&((aQ T t.name false).2&&isLeft (aQ T t.name false).1)
theorem eB {T:List aF} {b:Bool} {t:Tm} (h:(cZ T b t).2=true):t.args.length=2∧t.name≠[46]∧b=true∧cZ T b t=aQ T t.name false:=by
 unfold cZ at h ⊢;split at h
 ·cases h
 ·rename_i hc;rw[if_neg hc];simp only[Bool.or_eq_true,Bool.not_eq_true',decide_eq_true_eq,decide_eq_false_iff_not,not_or,Bool.not_eq_false] at hc;exact⟨Classical.not_not.1 hc.1.2,hc.2,hc.1.1,rfl⟩
theorem dV {T:List aF} {b:Bool} {t:Tm} (h:(dn T b t).2=true):t.args.length=1∧b=true∧dn T b t=aQ T t.name true∧fY t.name=true∧¬ (t.name=[45]∧(om t).kind=1):=by
 unfold dn at h ⊢;split at h
 ·cases h
 ·rename_i hc;rw[if_neg hc];simp only[Bool.or_eq_true,Bool.not_eq_true',decide_eq_true_eq,decide_eq_false_iff_not,not_or,Bool.not_eq_false,Bool.and_eq_true] at hc;exact⟨Classical.not_not.1 hc.1.1.2,hc.1.1.1,rfl,hc.2,hc.1.2⟩
theorem u4 {T:List aF} (hg:bM T=true) {s:List UInt8} {b:Bool} (h:(aQ T s b).2=true):1≤(aQ T s b).1.l∧(aQ T s b).1.l≤1200:=by
 have:=Cn (nf hg _ (jF h).1);omega
theorem td {t:Tm} (h:ib t) (ha:t.args.length≠0):t.kind=2:=by
 have h1:=h.1;simp only[dp,Bool.and_eq_true,decide_eq_true_eq] at h1;have g:=h1.2;rw[dd,Bool.and_eq_true] at g;have o:=g.1;unfold fc at o;split at o
 ·simp only[Bool.and_eq_true,decide_eq_true_eq] at o;omega
 ·split at o
  ·simp only[Bool.and_eq_true,decide_eq_true_eq] at o;omega
  ·split at o
   ·rename_i e;exact e
   ·cases o
theorem RC (s:List UInt8):yV s false=s:=rfl
theorem P7 {T:List aF} (hg:bM T=true) (vr:Int→List UInt8) {t:Tm} (h:ib t) (n:Int):
 wF T true vr t (n - 1) true=if 0 < lK T t∧lK T t=n then yV (wF T true vr t n true) true else wF T true vr t n true:=by
 rw[zx T true vr t (n - 1) true h,zx T true vr t n true h]
 have z0:t.args.length=0→lK T t=0:=fun e=>by
  unfold lK;rw[if_neg (fun e1=>by have:=(eB e1).1;omega),if_neg (fun e1=>by have:=(dV e1).1;omega)]
 by_cases k0:t.kind=0
 ·have:t.args.length=0:=by
   by_cases e:t.args.length=0
   ·exact e
   ·have:=td h e;omega
  simp only[if_pos k0];rw[if_neg (by rw[z0 this];omega)]
 simp only[if_neg k0];by_cases k1:t.kind=1
 ·have:t.args.length=0:=by
   by_cases e:t.args.length=0
   ·exact e
   ·have:=td h e;omega
  simp only[if_pos k1];rw[if_neg (by rw[z0 this];omega)]
 simp only[if_neg k1];by_cases k2:t.args.length=0
 ·simp only[if_pos k2];rw[if_neg (by rw[z0 k2];omega)];unfold tQ;simp
 simp only[if_neg k2];by_cases k3:((true&&decide (t.name=[46]))&&decide (t.args.length=2))=true
 ·simp only[if_pos k3];simp only[Bool.true_and,Bool.and_eq_true,decide_eq_true_eq] at k3
  have:lK T t=0:=by
   unfold lK;rw[if_neg (fun e1=>(eB e1).2.1 k3.1),if_neg (fun e1=>by have:=(dV e1).1;omega)]
  rw[if_neg (by omega)]
 simp only[if_neg k3];by_cases k4:((true&&decide (t.name=[123,125]))&&decide (t.args.length=1))=true
 ·simp only[if_pos k4];simp only[Bool.true_and,Bool.and_eq_true,decide_eq_true_eq] at k4
  have:lK T t=0:=by
   unfold lK;rw[if_neg (fun e1=>by have:=(eB e1).1;omega),if_neg (fun e1=>?_)];obtain⟨_,_,e3,_⟩:=dV e1;rw[e3] at e1;have m:=jF e1;have:=nf hg _ m.1;rw[m.2.1,k4.1] at this;simp[iI] at this
  rw[if_neg (by omega)]
 simp only[if_neg k4];by_cases k5:(cZ T true t).2=true
 ·simp only[if_pos k5];have e:lK T t=(cZ T true t).1.l:=by unfold lK;rw[if_pos k5]
  have hp:=u4 hg (s:=t.name) (b:=false) (by have e2:=(eB k5).2.2.2;rw[←e2];exact k5);rw[←(eB k5).2.2.2] at hp;rw[e];by_cases c:(cZ T true t).1.l=n
  ·rw[if_pos ⟨by omega,c⟩,decide_eq_true (by omega),decide_eq_false (by omega),RC]
  ·rw[if_neg (fun x=>c x.2)];congr 1;exact decide_eq_decide.2 (by omega)
 simp only[if_neg k5];by_cases k6:(dn T true t).2=true
 ·simp only[if_pos k6];have e:lK T t=(dn T true t).1.l:=by unfold lK;rw[if_neg k5,if_pos k6]
  have hp:=u4 hg (s:=t.name) (b:=true) (by have e2:=(dV k6).2.2.1;rw[←e2];exact k6);rw[←(dV k6).2.2.1] at hp;rw[e];by_cases c:(dn T true t).1.l=n
  ·rw[if_pos ⟨by omega,c⟩,decide_eq_true (by omega),decide_eq_false (by omega),RC]
  ·rw[if_neg (fun x=>c x.2)];congr 1;exact decide_eq_decide.2 (by omega)
 simp only[if_neg k6];have:lK T t=0:=by unfold lK;rw[if_neg k5,if_neg k6]
 rw[if_neg (by omega)]
theorem T9 {T:List aF} (hg:bM T=true) (vr:Int→List UInt8) {o:aF} (ho:1≤o.l) {t:Tm} (h:ib (om t)):
 wF T true vr (om t) (lW T true o t) true=if isLeft o&&(decide (lK T (om t)=o.l)&&!Al T (om t)) then [40]++wF T true vr (om t) (bz o).1 true++[41] else wF T true vr (om t) (bz o).1 true:=by
 unfold lW
 cases hl:isLeft o with
 | false=>simp
 | true=>
   have hs:(bz o).1=o.l:=by
    unfold isLeft at hl;simp only[decide_eq_true_eq] at hl;unfold bz;rw[hl];rfl
   rw[hs];simp only[Bool.true_and]
   cases hi:(cZ T true (om t)).2&&isLeft (cZ T true (om t)).1 with
   | true=>
     simp only[Bool.and_eq_true] at hi;have e:=eB hi.1
     have hy:Al T (om t)=true:=by
      unfold Al;rw[←e.2.2.2,hi.1,hi.2,decide_eq_true e.1];rfl
     simp[hy]
   | false=>
     simp only[Bool.not_false,if_true];rw[P7 hg vr h];by_cases c:lK T (om t)=o.l
     ·have hy:Al T (om t)=false:=by
       unfold Al;by_cases c2:(om t).args.length=2
       ·cases h2:(cZ T true (om t)).2 with
        | true=>
          rw[h2,Bool.true_and] at hi;rw[←(eB h2).2.2.2,hi];simp
        | false=>
          unfold lK at c;rw[if_neg (by rw[h2];simp)] at c;by_cases h3:(dn T true (om t)).2=true
          ·have:=(dV h3).1;omega
          ·rw[if_neg h3] at c;omega
       ·rw[decide_eq_false c2];rfl
      rw[if_pos ⟨by omega,c⟩,if_pos (by rw[hy,decide_eq_true c];rfl)];rfl
     ·rw[if_neg (fun x=>c x.2),if_neg (by rw[decide_eq_false c];simp)]
def j7 (T:List aF) (vr:Int→List UInt8) (t:Tm):List UInt8×Int:=
 if (cZ T true t).2 then (PC T true vr (cZ T true t).1 t,(cZ T true t).1.l)
 else if (dn T true t).2 then (cb t.name++[32]++wF T true vr (om t) (bz (dn T true t).1).2 true,(dn T true t).1.l)
 else ([],0)
theorem Mp (T:List aF) (vr:Int→List UInt8) (t:Tm):(j7 T vr t).2=lK T t:=by
 unfold j7 lK;split
 ·rfl
 ·split<;>rfl
theorem QC {T:List aF} (hg:bM T=true) (t:Tm):0≤lK T t∧lK T t≤1200∧(lK T t=0↔((cZ T true t).2=false∧(dn T true t).2=false)):=by
 unfold lK;by_cases k5:(cZ T true t).2=true
 ·have hp:=u4 hg (s:=t.name) (b:=false) (by have e2:=(eB k5).2.2.2;rw[←e2];exact k5);rw[←(eB k5).2.2.2] at hp;rw[if_pos k5,k5];exact⟨by omega,by omega,by simp;omega⟩
 ·rw[if_neg k5];by_cases k6:(dn T true t).2=true
  ·have hp:=u4 hg (s:=t.name) (b:=true) (by have e2:=(dV k6).2.2.1;rw[←e2];exact k6);rw[←(dV k6).2.2.1] at hp;rw[if_pos k6,k6];exact⟨by omega,by omega,by simp;omega⟩
  ·rw[if_neg k6];simp at k5 k6;exact⟨by omega,by omega,by simp[k5,k6]⟩
theorem VU {T:List aF} (hg:bM T=true) (vr:Int→List UInt8) (t:Tm) (n:Int) (bs:Bool) (h:ib t):wF T true vr t n bs=
 if t.kind=0 then vr t.num
 else if t.kind=1 then (if decide (t.num < 0)&&bs then [40]++fj t.num++[41] else fj t.num)
 else if t.args.length=0 then (if 0 < uM T t.name∧(n < uM T t.name∨bs=true) then [40]++cb t.name++[41] else cb t.name)
 else if decide (t.name=[46])&&decide (t.args.length=2) then qO T true vr t
 else if decide (t.name=[123,125])&&decide (t.args.length=1) then [123]++wF T true vr (om t) 1200 false++[125]
 else if (j7 T vr t).2=0 then cb t.name++me 40 (t.args.map fun x=>wF T true vr x 999 false)++[41]
 else if n < (j7 T vr t).2 then [40]++(j7 T vr t).1++[41] else (j7 T vr t).1:=by
 rw[zx T true vr t n bs h];by_cases k0:t.kind=0
 ·rw[if_pos k0,if_pos k0]
 rw[if_neg k0,if_neg k0];by_cases k1:t.kind=1
 ·rw[if_pos k1,if_pos k1,Bool.and_comm];unfold yV;rfl
 rw[if_neg k1,if_neg k1];by_cases k2:t.args.length=0
 ·rw[if_pos k2,if_pos k2];unfold tQ;rw[←BK hg];have hp:=Qw hg t.name
  cases hb:(aQ T t.name false).2||(aQ T t.name true).2 with
  | false=>
    rw[hb] at hp;rw[if_neg (fun e=>absurd (hp.1 e.1) (by simp))];simp[yV]
  | true=>
    rw[hb] at hp;have:=hp.2 rfl;simp only[Bool.true_and];unfold yV
    cases bs with
    | true=>simp[this]
    | false=>simp[this]
 rw[if_neg k2,if_neg k2];simp only[Bool.true_and];by_cases k3:(decide (t.name=[46])&&decide (t.args.length=2))=true
 ·rw[if_pos k3,if_pos k3]
 rw[if_neg k3,if_neg k3];by_cases k4:(decide (t.name=[123,125])&&decide (t.args.length=1))=true
 ·rw[if_pos k4,if_pos k4]
 rw[if_neg k4,if_neg k4];have hr:=QC hg t;rw[Mp];by_cases k5:(cZ T true t).2=true
 ·have e:lK T t=(cZ T true t).1.l:=by unfold lK;rw[if_pos k5]
  rw[if_pos k5,if_neg (fun z=>by rw[hr.2.2.1 z |>.1] at k5;cases k5),e];unfold j7 yV;simp only[if_pos k5,decide_eq_true_eq]
 rw[if_neg k5];by_cases k6:(dn T true t).2=true
 ·have e:lK T t=(dn T true t).1.l:=by unfold lK;rw[if_neg k5,if_pos k6]
  rw[if_pos k6,if_neg (fun z=>by rw[hr.2.2.1 z |>.2] at k6;cases k6),e];unfold j7 yV;simp only[if_neg k5,if_pos k6,decide_eq_true_eq]
 rw[if_neg k6];simp only[Bool.not_eq_true] at k5 k6;rw[if_pos (hr.2.2.2 ⟨k5,k6⟩)]
 cases ha:t.args with
 | nil=>rw[ha] at k2;simp at k2
 | cons y r=>
   rw[List.map_cons,kN];simp
theorem nV {x:AV} {T:List aF} (hx:a6 x=some T) (h:aa) (n0 d:Nat):gr h n0 (d+1) x=some (x,[]):=by
 rcases aD hx with⟨rfl,_⟩ | rfl<;>rfl
theorem mP {T:List aF} (hg:bM T=true) {x:AV} (hx:a6 x=some T) (hT:T.length < 1000000) (s:List UInt8) (b:Bool):
 ((aQ T s (!b)).2=false∧iM.S [x,.str s,.bool b]=some (.int .i64 (-1)))∨
 ((aQ T s (!b)).2=true∧∃i:Nat,iM.S [x,.str s,.bool b]=some (.int .i64 i)∧x=.sl (T.map aF.enc)∧(T.map aF.enc)[i]? =some (aQ T s (!b)).1.enc∧i < T.length):=by
 have q:=Kl hx s b (by omega);rcases FE hg s b with⟨h1,h2⟩ | ⟨h1,i,h2,h3⟩
 ·exact .inl ⟨h1,by rw[q,h2]⟩
 ·refine .inr ⟨h1,i,by rw[q,h2],?_,?_,?_⟩
  ·rcases aD hx with⟨rfl,rfl⟩ | rfl
   ·simp at h3
   ·rfl
  ·rw[List.getElem?_map,h3];rfl
  ·exact (List.getElem?_eq_some_iff.1 h3).1
noncomputable def Fj:List ai:=[iM,gL]
theorem II:∀s ∈ Fj,ck Tryz.prog dm s:=by simp[Fj,Bx.lift,rr]
noncomputable def lY:aU:=⟨133,fun
 | [.ptr 0 0,v],os=>(match z6 os,dB v with
   | some D,some t=>if ib t∧bM D.T=true then some (.int .i64 (lK D.T t),none) else none
   | _,_=>none)
 | _,_=>none⟩
theorem dw:lY.f=133:=(rfl)
theorem HM {x y:AV} {T:List aF} {vs:List Int} (hx:a6 x=some T) (hy:ft y=some vs) (hT:T.length < 1000000) (hv:vs.length < 100000) (t:Tm) (h:ib t∧bM T=true):
 lY.S [.ptr 0 0,t.enc] [.row [x,y]]=some (.int .i64 (lK T t),none):=by
 simp only[lY,lM hx hy hT hv,aX];rw[if_pos h]
theorem Co {T:List aF} {t:Tm} (h1:t.args.length≠1) (h2:t.args.length=2→t.name=[46]):lK T t=0:=by
 unfold lK;rw[if_neg (fun e=>(eB e).2.1 (h2 (eB e).1)),if_neg (fun e=>h1 (dV e).1)]
theorem Gm (x y:AV) (T:List aF) (vs:List Int) (hx:a6 x=some T) (hT:T.length < 1000000) (t:Tm) (hok:ib t) (hg:bM T=true):
 aw (cW Fj []) 8 133 [.ptr 0 0,t.enc] ⟨1,[.row [x,y]],1,1⟩=some (.int .i64 (lK T t),⟨1,[.row [x,y]],1,1⟩):=by
 have hxr:=bC hx;have hfx:=fun h=>nV hx h 0 7
 have har:=ah t;have hlv:=fB t;have hte:t.enc=.agg [.int .i64 t.kind,.int .i64 t.num,.str t.name,t.aJ]:=by rw[Tm.ay];rfl
 have hcl:=Tm.an t;rw[hte];simp only[Fj];by_cases k2:t.args.length=0
 ·rw[Co (by omega) (fun e=>by omega)];have k2':((t.args.length:Int)=0)=True:=eq_true (by omega);by_cases kk:t.kind=2
  ·simp[eK,mw,bx,aO,hfx,har,ag,hlv,k2,k2',kk]
  ·simp[eK,mw,bx,aO,hfx,har,ag,hlv,k2,k2',kk]
 have kk:t.kind=2:=td hok k2;have k2':((t.args.length:Int)=0)=False:=eq_false (by omega)
 have fin:∀(nm:List UInt8),t.name=nm→∀e1 e2:Bool,(nm==[46])=e1→(nm==[123,125])=e2→
  aw (cW [iM,gL] []) 8 133 [.ptr 0 0,.agg [.int .i64 t.kind,.int .i64 t.num,.str nm,t.aJ]] ⟨1,[.row [x,y]],1,1⟩=some (.int .i64 (lK T t),⟨1,[.row [x,y]],1,1⟩):=fun nm hnm e1 e2 he1 he2=>by
  by_cases l2:t.args.length=2
  ·have l2':((t.args.length:Int)=2)=True:=eq_true (by omega);have l1':((t.args.length:Int)=1)=False:=eq_false (by omega);have n1:¬ t.args.length=1:=by omega
   cases e1 with
   | true=>
     have he':nm=[46]:=by simpa using he1
     subst he';rw[Co (by omega) (fun _=>hnm)];simp[eK,mw,bx,aO,hfx,har,ag,hlv,k2,k2',kk,l2,l2',l1',n1]
   | false=>
     have n46:¬ nm=[46]:=by simpa using he1
     have hi:cZ T true t=aQ T nm false:=by
      unfold cZ;rw[hnm,decide_eq_false n46,decide_eq_true l2];rfl
     rcases mP hg hx hT nm true with⟨f1,f2⟩ | ⟨f1,i,f2,f3,f4,f5⟩
     ·have:lK T t=0:=by
       unfold lK;rw[if_neg (by rw[hi];simp at f1;simp[f1]),if_neg (fun e=>by have:=(dV e).1;omega)]
      rw[this]
      cases e2 with
      | true=>
        have he':nm=[123,125]:=by simpa using he2
        subst he';simp[eK,mw,bx,aO,hfx,har,ag,hlv,k2,k2',kk,l2,l2',l1',n1,n46,f2]
      | false=>
        have n2:¬ nm=[123,125]:=by simpa using he2
        simp[eK,mw,bx,aO,hfx,har,ag,hlv,k2,k2',kk,l2,l2',l1',n1,n46,n2,he1,he2,f2]
     ·have:lK T t=(aQ T nm false).1.l:=by
       unfold lK;rw[if_pos (by rw[hi];simpa using f1),hi]
      rw[this];simp only[Bool.not_true] at f4;subst f3;have hpr:=aZ T;have hUl:(T.map aF.enc).length=T.length:=List.length_map _;have b0:(0:Int)≤(i:Int):=by omega
      simp only[aF.enc,aF.cells] at f4 f2 ⊢;generalize T.map (fun o:aF=>AV.agg [.str o.n,.str o.k,.int .i64 o.l])=U at *
      cases e2 with
      | true=>
        have he':nm=[123,125]:=by simpa using he2
        subst he';simp[eK,mw,bx,aO,hfx,har,ag,hlv,k2,k2',kk,l2,l2',l1',n1,n46,f2,f4,b0,hpr]
      | false=>
        have n2:¬ nm=[123,125]:=by simpa using he2
        simp[eK,mw,bx,aO,hfx,har,ag,hlv,k2,k2',kk,l2,l2',l1',n1,n46,n2,he1,he2,f2,f4,b0,hpr]
  ·have l2':((t.args.length:Int)=2)=False:=eq_false (by omega);by_cases l1:t.args.length=1
   ·have l1':((t.args.length:Int)=1)=True:=eq_true (by omega);obtain⟨y0,ha,hav,hy0⟩:=mJ l1;have hye:=Tm.ay y0;have hyc:=Tm.an y0;have hyr:=ah y0
    have hi0:(cZ T true t).2=false:=by
     cases h:(cZ T true t).2 with
     | false=>rfl
     | true=>exact absurd (eB h).1 (by omega)
    have tail:∀e1:Bool,(nm==[46])=e1→(nm==[123,125])=false→∀mi:Bool,(nm==[45])=mi→
     aw (cW [iM,gL] []) 8 133 [.ptr 0 0,.agg [.int .i64 t.kind,.int .i64 t.num,.str nm,t.aJ]] ⟨1,[.row [x,y]],1,1⟩=some (.int .i64 (lK T t),⟨1,[.row [x,y]],1,1⟩):=fun e1 he1 he2 mi hmi=>by
     have n2:¬ nm=[123,125]:=by simpa using he2
     have qp:=rV nm;have lvp:lK T t=if (dn T true t).2 then (dn T true t).1.l else 0:=by unfold lK;rw[if_neg (by rw[hi0];simp)]
     rw[hav,hye,hyc];rw[kk]
     cases hpl:fY nm with
     | false=>
       rw[hpl] at qp
       have:lK T t=0:=by
        rw[lvp,if_neg];intro e;have:=(dV e).2.2.2.1;rw[hnm,hpl] at this;cases this
       rw[this]
       cases e1 with
       | true=>
         have he':nm=[46]:=by simpa using he1
         subst he';simp[eK,mw,bx,aO,hfx,hyr,ag,qp]
       | false=>
         have n46:¬ nm=[46]:=by simpa using he1
         simp[eK,mw,bx,aO,hfx,hyr,ag,n46,n2,he1,he2,qp]
     | true=>
       rw[hpl] at qp
       have n46:¬ nm=[46]:=fun e=>by
        rw[e] at hpl;exact absurd hpl (by decide)
       have he1':(nm==[46])=false:=by simpa using n46
       have pre:¬ (nm=[45]∧y0.kind=1)→dn T true t=aQ T nm true:=fun hh=>by
        unfold dn;rw[hnm,hpl,decide_eq_true l1,hy0]
        have:(decide (nm=[45])&&decide (y0.kind=1))=false:=by
         rw[Bool.and_eq_false_iff];by_cases g:nm=[45]
         ·exact .inr (decide_eq_false fun g2=>hh ⟨g,g2⟩)
         ·exact .inl (decide_eq_false g)
        rw[this];rfl
       have go:∀(mi:Bool),(nm==[45])=mi→(mi=true→(y0.kind=1)=False)→aw (cW [iM,gL] []) 8 133 [.ptr 0 0,.agg [.int .i64 2,.int .i64 t.num,.str nm,.sl [.agg [.int .i64 y0.kind,.int .i64 y0.num,.str y0.name,y0.aJ]]]] ⟨1,[.row [x,y]],1,1⟩=some (.int .i64 (if (aQ T nm true).2 then (aQ T nm true).1.l else 0),⟨1,[.row [x,y]],1,1⟩):=fun mi hmi hk=>by
        rcases mP hg hx hT nm false with⟨f1,f2⟩ | ⟨f1,i,f2,f3,f4,f5⟩
        ·simp only[Bool.not_false] at f1;rw[f1,if_neg (by simp)]
         cases mi with
         | true=>
           have he':nm=[45]:=by simpa using hmi
           subst he';simp[eK,mw,bx,aO,hfx,hyr,ag,qp,hk rfl,f2]
         | false=>
           have n45:¬ nm=[45]:=by simpa using hmi
           simp[eK,mw,bx,aO,hfx,hyr,ag,n46,n2,he1',he2,qp,n45,hmi,f2]
        ·simp only[Bool.not_false] at f1 f4;rw[f1,if_pos rfl];subst f3;have hpr:=aZ T;have hUl:(T.map aF.enc).length=T.length:=List.length_map _;have b0:(0:Int)≤(i:Int):=by omega
         simp only[aF.enc,aF.cells] at f4 f2 ⊢;generalize T.map (fun o:aF=>AV.agg [.str o.n,.str o.k,.int .i64 o.l])=U at *
         cases mi with
         | true=>
           have he':nm=[45]:=by simpa using hmi
           subst he';simp[eK,mw,bx,aO,hfx,hyr,ag,qp,hk rfl,f2,f4,b0]
         | false=>
           have n45:¬ nm=[45]:=by simpa using hmi
           simp[eK,mw,bx,aO,hfx,hyr,ag,n46,n2,he1',he2,qp,n45,hmi,f2,f4,b0]
       by_cases hmk:nm=[45]∧y0.kind=1
       ·have:lK T t=0:=by
         rw[lvp,if_neg];intro e;exact (dV e).2.2.2.2 ⟨hnm.trans hmk.1,by rw[hy0];exact hmk.2⟩
        rw[this];obtain⟨rfl,hk1⟩:=hmk;simp[eK,mw,bx,aO,hfx,hyr,ag,qp,hk1]
       ·rw[lvp,pre hmk];refine go mi hmi fun hm=>eq_false fun hk1=>hmk ⟨by rw[hm] at hmi;simpa using hmi,hk1⟩
    cases e2 with
    | true=>
      have he':nm=[123,125]:=by simpa using he2
      subst he'
      have:lK T t=0:=by
       unfold lK;rw[if_neg (by rw[hi0];simp),if_neg];intro e;have e3:=(dV e).2.2.1;rw[e3] at e;have m:=jF e;have:=nf hg _ m.1;rw[m.2.1,hnm] at this;simp[iI] at this
      rw[this,hav,hye,hyc,kk];simp[eK,mw,bx,aO,hfx,hyr,ag]
    | false=>exact tail e1 he1 he2 _ rfl
   ·have l1':((t.args.length:Int)=1)=False:=eq_false (by omega);rw[Co l1 (fun e=>absurd e l2)]
    cases e1 with
    | true=>
      have he':nm=[46]:=by simpa using he1
      subst he';simp[eK,mw,bx,aO,hfx,har,ag,hlv,k2,k2',kk,l2,l2',l1',l1]
    | false=>
      have n46:¬ nm=[46]:=by simpa using he1
      cases e2 with
      | true=>
        have he':nm=[123,125]:=by simpa using he2
        subst he';simp[eK,mw,bx,aO,hfx,har,ag,hlv,k2,k2',kk,l2,l2',l1',l1,n46]
      | false=>
        have n2:¬ nm=[123,125]:=by simpa using he2
        simp[eK,mw,bx,aO,hfx,har,ag,hlv,k2,k2',kk,l2,l2',l1',l1,n46,n2,he1,he2]
 exact fin t.name rfl _ _ rfl rfl
theorem Gz:ch Tryz.prog dm lY:=fun args os v r hv=>by
 unfold lY at hv;dsimp only at hv;split at hv
 ·rename_i v0 os;split at hv
  ·rename_i D t hD ht;split at hv
   ·rename_i hc;cases hv;obtain⟨x,y,hx,hy,rfl,hT,hvl⟩:=nc hD;rw[bc ht,dw];have hE:dA Tryz.prog dm (cW Fj []):=dv II (by simp);exact u0 hE hx hy (Gm x y D.T D.vs hx hT t hc.1 hc.2) (by simp[AV.refs]) (by simp[AV.af,Tm.ba])
   ·cases hv
  ·cases hv
 ·cases hv
noncomputable def wh:aU:=⟨134,fun
 | [.ptr 0 0,v],os=>(match z6 os,dB v with
   | some D,some t=>if ib t∧bM D.T=true then some (.bool (Al D.T t),none) else none
   | _,_=>none)
 | _,_=>none⟩
theorem fb:wh.f=134:=(rfl)
theorem OT {x y:AV} {T:List aF} {vs:List Int} (hx:a6 x=some T) (hy:ft y=some vs) (hT:T.length < 1000000) (hv:vs.length < 100000) (t:Tm) (h:ib t∧bM T=true):
 wh.S [.ptr 0 0,t.enc] [.row [x,y]]=some (.bool (Al T t),none):=by
 simp only[wh,lM hx hy hT hv,aX];rw[if_pos h]
theorem N2 (x y:AV) (T:List aF) (hx:a6 x=some T) (hT:T.length < 1000000) (t:Tm) (hg:bM T=true):
 aw (cW Fj []) 8 134 [.ptr 0 0,t.enc] ⟨1,[.row [x,y]],1,1⟩=some (.bool (Al T t),⟨1,[.row [x,y]],1,1⟩):=by
 have hxr:=bC hx;have hfx:=fun h=>nV hx h 0 7
 have har:=ah t;have hlv:=fB t;have hte:t.enc=.agg [.int .i64 t.kind,.int .i64 t.num,.str t.name,t.aJ]:=by rw[Tm.ay];rfl
 have hcl:=Tm.an t;rw[hte];simp only[Fj];unfold Al;by_cases l2:t.args.length=2
 ·have l2':((t.args.length:Int)=2)=True:=eq_true (by omega);rcases mP hg hx hT t.name true with⟨f1,f2⟩ | ⟨f1,i,f2,f3,f4,f5⟩
  ·simp only[Bool.not_true] at f1;rw[f1];simp[Cg,K5,bx,aO,hfx,har,ag,hlv,l2,l2',f2]
  ·simp only[Bool.not_true] at f1 f4;rw[f1];subst f3;have hpr:=aZ T;have hUl:(T.map aF.enc).length=T.length:=List.length_map _;have b0:(0:Int)≤(i:Int):=by omega
   have e3:=iP (aQ T t.name false).1.k [121,102,120];simp only[aF.enc,aF.cells] at f4 f2 ⊢;unfold isLeft;generalize T.map (fun o:aF=>AV.agg [.str o.n,.str o.k,.int .i64 o.l])=U at *;simp[Cg,K5,bx,aO,hfx,har,ag,hlv,l2,l2',f2,f4,b0,e3]
 ·have l2':((t.args.length:Int)=2)=False:=eq_false (by omega);rcases mP hg hx hT t.name true with⟨f1,f2⟩ | ⟨f1,i,f2,f3,f4,f5⟩<;>
  simp[Cg,K5,bx,aO,hfx,har,ag,hlv,l2,l2',f2]
theorem O2:ch Tryz.prog dm wh:=fun args os v r hv=>by
 unfold wh at hv;dsimp only at hv;split at hv
 ·rename_i v0 os;split at hv
  ·rename_i D t hD ht;split at hv
   ·rename_i hc;cases hv;obtain⟨x,y,hx,hy,rfl,hT,hvl⟩:=nc hD;rw[bc ht,fb];have hE:dA Tryz.prog dm (cW Fj []):=dv II (by simp);exact u0 hE hx hy (N2 x y D.T hx hT t hc.2) (by simp[AV.refs]) (by simp[AV.af,Tm.ba])
   ·cases hv
  ·cases hv
 ·cases hv
noncomputable def jt (N:Nat):aU:=⟨55,fun
 | [.ptr 0 0,v,.int .i64 n,.bool bs],os=>(match z6 os,dB v with
   | some D,some t=>if (ib t∧bM D.T=true)∧t.size < N then some (.str (wF D.T true (eS D.vs) t n bs),none) else none
   | _,_=>none)
 | _,_=>none⟩
theorem bu (N:Nat):(jt N).f=55:=(rfl)
theorem je (N:Nat) {x y:AV} {T:List aF} {vs:List Int} (hx:a6 x=some T) (hy:ft y=some vs) (hT:T.length < 1000000) (hv:vs.length < 100000) (t:Tm) (h:(ib t∧bM T=true)∧t.size < N) (n:Int) (bs:Bool):
 (jt N).S [.ptr 0 0,t.enc,.int .i64 n,.bool bs] [.row [x,y]]=some (.str (wF T true (eS vs) t n bs),none):=by
 simp only[jt,lM hx hy hT hv,aX];rw[if_pos h]
theorem LY (N:Nat) {x y:AV} {T:List aF} {vs:List Int} (hx:a6 x=some T) (hy:ft y=some vs) (hT:T.length < 1000000) (hv:vs.length < 100000) (t:Tm) (h:N≤t.size) (n:Int) (bs:Bool):
 (jt N).S [.ptr 0 0,t.enc,.int .i64 n,.bool bs] [.row [x,y]]=none:=by
 simp only[jt,lM hx hy hT hv,aX];rw[if_neg (by omega)]
def Jy (b:Bool):List (List UInt8)→List UInt8
 | []=>[]
 | w::r=>(if b then w else [44]++w)++me 44 r
theorem T7:∀l,Jy false l=me 44 l
 | []=>rfl
 | w::r=>rfl
theorem K7:∀l:List (List UInt8),Jy true l=Lib.join l [44]
 | []=>by simp[Jy,Lib.join]
 | w::r=>by
   have:=kN 0 r w;have e:me 0 (w::r)=[0]++w++me 44 r:=rfl;rw[e] at this;show w++me 44 r=_;simpa using this
noncomputable def Du:List ai:=[qq,ze,gi 3000]
noncomputable def HV (N:Nat):List aU:=[jt N]
theorem Rq:∀s ∈ Du,ck Tryz.prog dm s:=by simp[Du,Ib.lift,K3.lift,(wM 3000 (by decide)).lift]
theorem DA (n N:Nat) (us:List Tm) (a1 a2:List AV) (x yv:AV) (T:List aF) (vs:List Int) (hx:a6 x=some T) (hy:ft yv=some vs) (hT:T.length < 1000000) (hv:vs.length < 100000) (hg:bM T=true) (hus:∀y ∈ us,ib y∧y.size < N) (hal:us.length < 100000) (h1:AV.af a1=0) (h2:AV.af a2=0):∀(post pre:List Tm) (acc:List UInt8) (m md:Nat),us=pre++post→post.length < m→acc.length+150*Tm.aI post≤1000000000→
 ∃md',er 3 1 (aT (ak (aw (cW Du (HV N)) (n+1)) (n+1) yh) oS 3 m (Pg (.ptr 0 0) (.sl (us.map Tm.enc)) (.ptr 2 0) (.str acc) (.int .i64 pre.length)) ⟨3,[.row a2,.row a1,.row [x,yv]],3,md⟩)=
   some (.exit 0,FM 44 [(0,.ptr 0 0),(6,.ptr 2 0),(7,.str (acc++Jy (decide (pre.length=0)) (post.map fun y=>wF T true (eS vs) y 999 false)))],⟨3,[.row a2,.row a1,.row [x,yv]],1,md'⟩)
 | _,_,_,0,_,_,h,_=>by omega
 | [],pre,acc,m+1,md,hs,_,_=>by
   rw[ae];rw[List.append_nil] at hs;have hpl:pre.length=us.length:=by rw[hs]
   have hUl:(us.map Tm.enc).length=us.length:=List.length_map _;have h6:((pre.length:Int) < (us.length:Int))=False:=eq_false (by omega);exact⟨md,by simp[yh,oS,hUl,h6,Jy]⟩
 | y::r,pre,acc,m+1,md,hs,hm,hab=>by
   rw[ae];simp only[Tm.aI] at hab;have hps:pre.length+r.length+1=us.length:=by rw[hs];simp;omega
   have hc:us[pre.length]? =some y:=by rw[hs];simp
   have hym:y ∈ us:=by rw[hs];simp
   have hye:y.enc=.agg [.int .i64 y.kind,.int .i64 y.num,.str y.name,y.aJ]:=by rw[Tm.ay];rfl
   have hyr:=ah y;have htr:=aB us;have hcU:(us.map Tm.enc)[pre.length]? =some (.agg [.int .i64 y.kind,.int .i64 y.num,.str y.name,y.aJ]):=by rw[List.getElem?_map,hc];exact congrArg some hye
   have hUl:(us.map Tm.enc).length=us.length:=List.length_map _;have h3:IntKind.i64.wrap ((pre.length:Int)+1)=(pre.length:Int)+1:=wrap_i64 (by omega) (by omega);have h6:((pre.length:Int) < (us.length:Int))=True:=eq_true (by omega);have q:=je N hx hy hT hv y ⟨⟨(hus y hym).1,hg⟩,(hus y hym).2⟩ 999 false;have hwl:=eR T true (eS vs) (ij hv) y 999 false (hus y hym).1;rw[List.map_cons];unfold Jy;generalize wF T true (eS vs) y 999 false=w at *;obtain⟨md',ih⟩:=DA n N us a1 a2 x yv T vs hx hy hT hv hg hus hal h1 h2 r (pre++[y]) (acc++(if pre.length=0 then w else [44]++w)) m md (by rw[hs];simp) (by simp at hm;omega) (by split<;>simp<;>omega);refine⟨md',?_⟩;have ht:=fU hx hy;have hok:=jS hx hy;have hsg:=hO hx hy;have b1:acc.length+1 < 9223372036854775808:=by omega
   have b2:acc.length+1+w.length < 9223372036854775808:=by omega
   have b3:acc.length+(w.length+1) < 9223372036854775808:=by omega
   have b4:acc.length+w.length < 9223372036854775808:=by omega
   have e0:decide ((pre++[y]).length=0)=false:=by simp
   rw[e0,T7] at ih;rw[hye] at q;simp only[List.length_append,List.length_cons,List.length_nil,Nat.zero_add,Int.natCast_add,Int.natCast_one,HV,Du] at ih ⊢;generalize us.map Tm.enc=U at *;by_cases hp:pre.length=0
   ·have hp':(0 < pre.length)=False:=eq_false (by omega);have hp2:(pre=[])=True:=eq_true (List.length_eq_zero_iff.1 hp);rw[if_pos hp] at ih;rw[decide_eq_true hp,if_pos rfl];simp[yh,oS,hcU,hUl,h3,h6,hp',hp2,hyr,htr,q,ht,hok,hsg,-aN,-bm,-aY,b1,b2,b3,b4,pX,tJ,ec,bu];simp only[List.append_assoc,List.cons_append,List.nil_append] at ih;exact ih
   ·have hp':(0 < pre.length)=True:=eq_true (by omega);rw[if_neg hp] at ih;rw[decide_eq_false hp,if_neg (by simp)];simp[yh,oS,hcU,hUl,h3,h6,hp',hyr,htr,q,ht,hok,hsg,-aN,-bm,-aY,b1,b2,b3,b4,pX,tJ,ec,bu];simp only[List.append_assoc,List.cons_append,List.nil_append] at ih;exact ih
theorem Le {u:Tm} (h:ib u):sB u (.nl 2 0 [91,93])=mC u:=by
 have hk:=o5 h;have h1:=h.1;simp only[dp,Bool.and_eq_true,decide_eq_true_eq] at h1;have g:=h1.2;rw[dd,Bool.and_eq_true] at g;have o:=g.1;unfold mC;rw[D4]
 have e:kB u.args (Tm.nl 2 0 [91,93]).args=decide (u.args.length=0):=by
  show kB u.args []=_
  cases u.args with
  | nil=>rfl
  | cons y r=>rfl
 rw[e];by_cases k2:u.kind=2
 ·have hn:u.num=0:=by
   unfold fc at o;rw[if_neg (by omega),if_neg (by omega),if_pos k2] at o;simp only[Bool.and_eq_true,decide_eq_true_eq] at o;exact o.1.1
  have e2:(u.name==[91,93])=decide (u.name=[91,93]):=VH _ _;rw[k2,hn];show (decide ((2:Int)=2)&&decide ((0:Int)=0)&&(u.name==[91,93])&&_)=_;rw[e2];rfl
 ·have:decide (u.kind=(Tm.nl 2 0 [91,93]).kind)=false:=decide_eq_false k2;rw[this,decide_eq_true (by omega:u.kind < 2)];rfl
noncomputable def lZ (N:Nat):aU:=⟨96,fun
 | [.ptr 0 0,v],os=>(match z6 os,dB v with
   | some D,some t=>if (ib t∧bM D.T=true)∧dx t=true∧t.size≤N then some (.str (qO D.T true (eS D.vs) t),none) else none
   | _,_=>none)
 | _,_=>none⟩
theorem cI (N:Nat):(lZ N).f=96:=(rfl)
theorem HI (N:Nat) {x y:AV} {T:List aF} {vs:List Int} (hx:a6 x=some T) (hy:ft y=some vs) (hT:T.length < 1000000) (hv:vs.length < 100000) (t:Tm) (h:(ib t∧bM T=true)∧dx t=true∧t.size≤N):
 (lZ N).S [.ptr 0 0,t.enc] [.row [x,y]]=some (.str (qO T true (eS vs) t),none):=by
 simp only[lZ,lM hx hy hT hv,aX];rw[if_pos h]
theorem JD (N:Nat) (x y:AV) (T:List aF) (vs:List Int) (hx:a6 x=some T) (hy:ft y=some vs) (hT:T.length < 1000000) (hv:vs.length < 100000) (t:Tm) (hok:ib t) (hg:bM T=true) (hdot:dx t=true) (hsN:t.size≤N):
 ∃m,aw (cW Du (HV N)) 200000 96 [.ptr 0 0,t.enc] ⟨1,[.row [x,y]],1,1⟩=some (.str (qO T true (eS vs) t),⟨1,[.row [x,y]],1,m⟩):=by
 obtain⟨i1,i2,i3⟩:=jG t.size t (Nat.le_refl _) hok;have i3':=i3 hdot;have hsz:=jY t.size t (Nat.le_refl _);have hgt:=hok.1;simp only[dp,Bool.and_eq_true,decide_eq_true_eq] at hgt;have q1:=Ia t hok.2.1
 have hne:(aE t).1≠[]:=by
  obtain⟨a,r,_,e⟩:=eb hdot;rw[e];simp
 have q3:=je N hx hy hT hv (aE t).2 ⟨⟨i2,hg⟩,by omega⟩ 999 false;have hWl:=eR T true (eS vs) (ij hv) (aE t).2 999 false i2;have k1:=iU [44] ((aE t).1.map fun y=>wF T true (eS vs) y 999 false);have k2:=n7 (f:=fun y=>(wF T true (eS vs) y 999 false).length) (aE t).1 (fun y hy=>eR T true (eS vs) (ij hv) y 999 false (i1 y hy).1);rw[List.map_map] at k1;have k4:(Lib.join ((aE t).1.map fun y=>wF T true (eS vs) y 999 false) [44]).length≤150*Tm.aI (aE t).1:=Nat.le_trans k1 k2
 have e2:LH (aE t).1=.sl ((aE t).1.map Tm.enc):=by
  cases hi:(aE t).1 with
  | nil=>exact absurd hi hne
  | cons a r=>rfl
 rw[e2] at q1;have hil:=ct (aE t).1;have q4:=rn 3000 (aE t).2 (.nl 2 0 [91,93]) ⟨by omega,by decide⟩;rw[Le i2] at q4;have q5:=Kh [91,93];obtain⟨md',lp⟩:=DA 199998 N (aE t).1 t.cells (aE t).2.cells x y T vs hx hy hT hv hg (fun z hz=>⟨(i1 z hz).1,by have:=(i1 z hz).2;omega⟩) (by omega) (by have:=t.ba;rw[Tm.ay] at this;exact this) (by have:=(aE t).2.ba;rw[Tm.ay] at this;exact this) (aE t).1 [] [91] 199999 1 rfl (by omega) (by simp;omega);simp only[List.length_nil,decide_true,K7,oS,Pg,Int.natCast_zero,HV,Du] at lp;unfold qO;generalize Lib.join ((aE t).1.map fun y=>wF T true (eS vs) y 999 false) [44]=J at *;generalize wF T true (eS vs) (aE t).2 999 false=V at *;have hur:=aB (aE t).1;generalize (aE t).1.map Tm.enc=U at *;generalize (aE t).2=u at *;have har:=ah t;have hur2:=ah u;have hcl:=Tm.an t;have hcu:=Tm.an u;have hnl:(Tm.nl 2 0 [91,93]).enc=.agg [.int .i64 2,.int .i64 0,.str [91,93],.ax]:=rfl;have ht:=fU hx hy;have hro:=jS hx hy;have hsg:=hO hx hy;rw[hcl,hcu] at lp;rw[hnl] at q4;rw[Tm.ay t,hcl] at q1 ⊢;rw[Tm.ay u,hcu] at q1 q3 q4;have b1:J.length+1 < 9223372036854775808:=by omega
 have b2:J.length+1+1 < 9223372036854775808:=by omega
 have b3:J.length+(1+V.length)+1 < 9223372036854775808:=by omega
 have b4:J.length+1+V.length < 9223372036854775808:=by omega
 have b5:J.length+1+1+V.length < 9223372036854775808:=by omega
 have b6:J.length+(V.length+1)+1 < 9223372036854775808:=by omega
 have b7:J.length+(V.length+1)+1+1 < 9223372036854775808:=by omega
 simp only[HV,Du]
 cases hn:mC u with
 | true=>
   rw[hn] at q4;exact⟨if md' < 1 then min 1 (min md' 3) else 1,by simp[OV,UR,oS,pX,tJ,ec,bu,q1,q4,q5,lp,har,hur2,hur,ag,ht,hro,hsg,-aN,-bm,-aY,b1,b2,b3,b4,b5,b6,b7]⟩
 | false=>
   rw[hn] at q4;exact⟨if md' < 1 then min 1 (min md' 3) else 1,by simp[OV,UR,oS,pX,tJ,ec,bu,q1,q3,q4,q5,lp,har,hur2,hur,ag,ht,hro,hsg,-aN,-bm,-aY,b1,b2,b3,b4,b5,b6,b7]⟩
theorem HW (N:Nat) (hN:ch Tryz.prog dm (jt N)):ch Tryz.prog dm (lZ N):=fun args os v r hv=>by
 unfold lZ at hv;dsimp only at hv;split at hv
 ·rename_i v0 os;split at hv
  ·rename_i D t hD ht;split at hv
   ·rename_i hc;cases hv;obtain⟨x,y,hx,hy,rfl,hT,hvl⟩:=nc hD;rw[bc ht,cI];have hE:dA Tryz.prog dm (cW Du (HV N)):=dv Rq (by simp[HV,hN]);obtain⟨m,e⟩:=JD N x y D.T D.vs hx hy hT hvl t hc.1.1 hc.1.2 hc.2.1 hc.2.2;exact u0 hE hx hy e (by simp[AV.refs]) (by simp[AV.af,Tm.ba])
   ·cases hv
  ·cases hv
 ·cases hv
noncomputable def Ft:List ai:=[iM,nN,gL,gf]
theorem Qa:∀s ∈ Ft,ck Tryz.prog dm s:=by simp[Ft,Bx.lift,Hv.lift,rr,rD]
noncomputable def Ho (N:Nat):List aU:=[jt N,lY,wh]
noncomputable def ow (N:Nat):aU:=⟨97,fun
 | [.ptr 0 0,v],os=>(match z6 os,dB v with
   | some D,some t=>if (ib t∧bM D.T=true)∧(t.args.length=2→t.name≠[46])∧t.size≤N then some (.tuple [.str (j7 D.T (eS D.vs) t).1,.int .i64 (j7 D.T (eS D.vs) t).2],none) else none
   | _,_=>none)
 | _,_=>none⟩
theorem dh (N:Nat):(ow N).f=97:=(rfl)
theorem JZ (N:Nat) {x y:AV} {T:List aF} {vs:List Int} (hx:a6 x=some T) (hy:ft y=some vs) (hT:T.length < 1000000) (hv:vs.length < 100000) (t:Tm) (h:(ib t∧bM T=true)∧(t.args.length=2→t.name≠[46])∧t.size≤N):
 (ow N).S [.ptr 0 0,t.enc] [.row [x,y]]=some (.tuple [.str (j7 T (eS vs) t).1,.int .i64 (j7 T (eS vs) t).2],none):=by
 simp only[ow,lM hx hy hT hv,aX];rw[if_pos h]
theorem Ky (N:Nat) (x y:AV) (T:List aF) (vs:List Int) (hx:a6 x=some T) (hy:ft y=some vs) (hT:T.length < 1000000) (hv:vs.length < 100000) (t:Tm) (hok:ib t) (hg:bM T=true) (hd:t.name≠[46]) (hsN:t.size≤N) (l2:t.args.length=2):
 aw (cW Ft (Ho N)) 8 97 [.ptr 0 0,t.enc] ⟨1,[.row [x,y]],1,1⟩=some (.tuple [.str (j7 T (eS vs) t).1,.int .i64 (j7 T (eS vs) t).2],⟨1,[.row [x,y]],1,1⟩):=by
 have har:=ah t;have hfx:=fun h=>nV hx h 0 7
 have hte:t.enc=.agg [.int .i64 t.kind,.int .i64 t.num,.str t.name,t.aJ]:=by rw[Tm.ay];rfl
 obtain⟨y0,z0,ha,hav,hy0,hz0⟩:=zj l2;have hs:=aM t;rw[ha] at hs;simp only[Tm.aI] at hs;have oky:=dI hok (y:=y0) (by rw[ha];simp);have okz:=dI hok (y:=z0) (by rw[ha];simp)
 have hi:cZ T true t=aQ T t.name false:=by
  unfold cZ;rw[decide_eq_false hd,decide_eq_true l2];rfl
 have hnp:(dn T true t).2=false:=by
  cases h:(dn T true t).2 with
  | false=>rfl
  | true=>exact absurd (dV h).1 (by omega)
 have ht:=fU hx hy;have hro:=jS hx hy;have hsg:=hO hx hy;have hq:=fK (ln hok);rw[hte,hav];simp only[Ft,Ho];unfold j7;rw[hi,hnp];rcases mP hg hx hT t.name true with⟨f1,f2⟩ | ⟨f1,i,f2,f3,f4,f5⟩
 ·simp only[Bool.not_true] at f1;rw[f1];simp[gX,CX,hfx,bx,dK,aO,aP,bu,dw,fb,har,ag,f2,ah]
 ·simp only[Bool.not_true] at f1 f4;have hm:=jF f1;have hp:=u4 hg f1;rw[f1,if_pos rfl];unfold PC Am;rw[hy0,hz0];have hlD:=T9 hg (eS vs) (o:=(aQ T t.name false).1) hp.1 (t:=t) (by rw[hy0];exact oky);rw[hy0] at hlD;rw[hlD];have q1:=zE (aQ T t.name false).1 ⟨by omega,by omega⟩;have q3:=n5 t.name;have q4:=je N hx hy hT hv y0 ⟨⟨oky,hg⟩,by omega⟩ (bz (aQ T t.name false).1).1 true;have q5:=je N hx hy hT hv z0 ⟨⟨okz,hg⟩,by omega⟩ (bz (aQ T t.name false).1).2 true;have q6:=HM hx hy hT hv y0 ⟨oky,hg⟩;have q7:=OT hx hy hT hv y0 ⟨oky,hg⟩;have l4:=eR T true (eS vs) (ij hv) y0 (bz (aQ T t.name false).1).1 true oky;have l5:=eR T true (eS vs) (ij hv) z0 (bz (aQ T t.name false).1).2 true okz;have hgt:=hok.1;simp only[dp,Bool.and_eq_true,decide_eq_true_eq] at hgt;have hls:(wF T true (eS vs) y0 (bz (aQ T t.name false).1).1 true).length < 1000000:=by omega
  have hrs:(wF T true (eS vs) z0 (bz (aQ T t.name false).1).2 true).length < 1000000:=by omega
  have hn:=hm.2.1;generalize wF T true (eS vs) y0 (bz (aQ T t.name false).1).1 true=A at *;generalize wF T true (eS vs) z0 (bz (aQ T t.name false).1).2 true=B at *;generalize bz (aQ T t.name false).1=sd at *;obtain⟨s1,s2⟩:=sd;generalize cb t.name=Q at *;unfold isLeft;generalize lK T y0=lv at *;generalize Al T y0=yf at *;clear hlD hm f1 hi hnp l4 l5;generalize (aQ T t.name false).1=o at *;obtain⟨on,ok,ol⟩:=o;dsimp only at hn q1 hp ⊢;subst hn;subst f3;have hpr:=aZ T;have hUl:(T.map aF.enc).length=T.length:=List.length_map _;have b0:(0:Int)≤(i:Int):=by omega
  have bn:((i:Int) < 0)=False:=eq_false (by omega);have hye:y0.enc=.agg [.int .i64 y0.kind,.int .i64 y0.num,.str y0.name,y0.aJ]:=by rw[Tm.ay];rfl
  have hze:z0.enc=.agg [.int .i64 z0.kind,.int .i64 z0.num,.str z0.name,z0.aJ]:=by rw[Tm.ay];rfl
  have hyr:=ah y0;have hzr:=ah z0;rw[hye] at q4 q6 q7 ⊢;rw[hze] at q5 ⊢;generalize T.map aF.enc=U at *;simp only[aF.enc,aF.cells] at f4;have b1:A.length+1 < 9223372036854775808:=by omega
  have b2:A.length+1+B.length < 9223372036854775808:=by omega
  have b3:A.length+1+1 < 9223372036854775808:=by omega
  have b4:A.length+1+1+1 < 9223372036854775808:=by omega
  have b5:A.length+1+1+1+B.length < 9223372036854775808:=by omega
  have b6:A.length+1+Q.length < 9223372036854775808:=by omega
  have b7:A.length+1+Q.length+1 < 9223372036854775808:=by omega
  have b8:A.length+1+Q.length+1+B.length < 9223372036854775808:=by omega
  have b9:A.length+(Q.length+1)+1+B.length < 9223372036854775808:=by omega
  have b10:A.length+(Q.length+1) < 9223372036854775808:=by omega
  have b11:A.length+(Q.length+1)+1 < 9223372036854775808:=by omega
  have b12:A.length+(Q.length+1+1) < 9223372036854775808:=by omega
  have b13:A.length+(Q.length+(1+1)) < 9223372036854775808:=by omega
  have b14:A.length+(1+B.length) < 9223372036854775808:=by omega
  have b15:A.length+(B.length+1) < 9223372036854775808:=by omega
  have b16:A.length+(Q.length+(B.length+1)+1) < 9223372036854775808:=by omega
  have b17:A.length+(B.length+1)+1+1 < 9223372036854775808:=by omega
  have b18:A.length+1+1+1+Q.length < 9223372036854775808:=by omega
  have b19:A.length+1+1+1+Q.length+1 < 9223372036854775808:=by omega
  have b20:A.length+1+1+1+Q.length+1+B.length < 9223372036854775808:=by omega
  have b21:1+A.length < 9223372036854775808:=by omega
  have b22:A.length+(Q.length+1+1)+B.length < 9223372036854775808:=by omega
  have b23:A.length+1+(Q.length+1+1)+B.length < 9223372036854775808:=by omega
  have b24:A.length+1+1+(Q.length+1) < 9223372036854775808:=by omega
  have b25:A.length+1+1+(Q.length+1+1)+B.length < 9223372036854775808:=by omega
  have b26:A.length+(1+1)+B.length < 9223372036854775808:=by omega
  have b27:A.length+1+(Q.length+1) < 9223372036854775808:=by omega
  have b28:A.length+(Q.length+1+1)+1 < 9223372036854775808:=by omega
  have b29:A.length+(Q.length+1+1)+1+B.length < 9223372036854775808:=by omega
  have b30:A.length+(Q.length+1+1+1)+B.length < 9223372036854775808:=by omega
  have b31:A.length+(Q.length+1+1+1)+1+B.length < 9223372036854775808:=by omega
  have b32:A.length+(Q.length+1+1+1) < 9223372036854775808:=by omega
  have b33:A.length+(Q.length+1+1)+1+1 < 9223372036854775808:=by omega
  have b34:A.length+(Q.length+1+1)+1+1+B.length < 9223372036854775808:=by omega
  have e3:=iP ok [121,102,120]
  have fin:∀nm:List UInt8,t.name=nm→∀g4:Bool,(nm==[44])=g4→∀g1:Bool,(ok==[121,102,120])=g1→
   aw (cW [iM,nN,gL,gf] [jt N,lY,wh]) 8 97 [.ptr 0 0,.agg [.int .i64 t.kind,.int .i64 t.num,.str nm,.sl [.agg [.int .i64 y0.kind,.int .i64 y0.num,.str y0.name,y0.aJ],.agg [.int .i64 z0.kind,.int .i64 z0.num,.str z0.name,z0.aJ]]]] ⟨1,[.row [.sl U,y]],1,1⟩=
    some (.tuple [.str ((if g1&&(decide (lv=ol)&&!yf) then [40]++A++[41] else A)++(if nm=[44] then [44] else [32]++Q++[32])++B),.int .i64 ol],⟨1,[.row [.sl U,y]],1,1⟩):=fun nm hnm g4 hg4 g1 hg1=>by
   rw[hnm] at f2 f4 q3 q1
   cases g4 with
   | true=>
     have hnc:nm=[44]:=by simpa using hg4
     subst hnc
     cases g1 with
     | false=>
       simp[gX,CX,hfx,bx,dK,aO,aP,bu,dw,fb,har,ag,f2,f4,b0,bn,q1,q4,q5,hyr,hzr,ht,hro,hsg,-aN,-bm,-aY,hg1,b1,b2,b3,b4,b5,b6,b7,b8,b9,b10,b11,b12,b13,b14,b15,b16,b17,b18,b19,b20,b21,b22,b23,b24,b25,b26,b27,b28,b29,b30,b31,b32,b33,b34]
     | true=>
       have hok':ok=[121,102,120]:=by simpa using hg1
       subst hok';by_cases c2:lv=ol
       ·cases yf with
        | true=>simp[gX,CX,hfx,bx,dK,aO,aP,bu,dw,fb,har,ag,f2,f4,b0,bn,q1,q4,q5,q6,q7,c2,hyr,hzr,ht,hro,hsg,-aN,-bm,-aY,b1,b2,b3,b4,b5,b6,b7,b8,b9,b10,b11,b12,b13,b14,b15,b16,b17,b18,b19,b20,b21,b22,b23,b24,b25,b26,b27,b28,b29,b30,b31,b32,b33,b34]
        | false=>simp[gX,CX,hfx,bx,dK,aO,aP,bu,dw,fb,har,ag,f2,f4,b0,bn,q1,q4,q5,q6,q7,c2,hyr,hzr,ht,hro,hsg,-aN,-bm,-aY,b1,b2,b3,b4,b5,b6,b7,b8,b9,b10,b11,b12,b13,b14,b15,b16,b17,b18,b19,b20,b21,b22,b23,b24,b25,b26,b27,b28,b29,b30,b31,b32,b33,b34]
       ·simp[gX,CX,hfx,bx,dK,aO,aP,bu,dw,fb,har,ag,f2,f4,b0,bn,q1,q4,q5,q6,c2,hyr,hzr,ht,hro,hsg,-aN,-bm,-aY,b1,b2,b3,b4,b5,b6,b7,b8,b9,b10,b11,b12,b13,b14,b15,b16,b17,b18,b19,b20,b21,b22,b23,b24,b25,b26,b27,b28,b29,b30,b31,b32,b33,b34]
   | false=>
     have hnc:¬ nm=[44]:=by simpa using hg4
     cases g1 with
     | false=>
       simp[gX,CX,hfx,bx,dK,aO,aP,bu,dw,fb,har,ag,f2,f4,b0,bn,q1,q3,q4,q5,hyr,hzr,ht,hro,hsg,-aN,-bm,-aY,hg1,hg4,hnc,b1,b2,b3,b4,b5,b6,b7,b8,b9,b10,b11,b12,b13,b14,b15,b16,b17,b18,b19,b20,b21,b22,b23,b24,b25,b26,b27,b28,b29,b30,b31,b32,b33,b34]
     | true=>
       have hok':ok=[121,102,120]:=by simpa using hg1
       subst hok';by_cases c2:lv=ol
       ·cases yf with
        | true=>simp[gX,CX,hfx,bx,dK,aO,aP,bu,dw,fb,har,ag,f2,f4,b0,bn,q1,q3,q4,q5,q6,q7,c2,hyr,hzr,ht,hro,hsg,-aN,-bm,-aY,hg4,hnc,b1,b2,b3,b4,b5,b6,b7,b8,b9,b10,b11,b12,b13,b14,b15,b16,b17,b18,b19,b20,b21,b22,b23,b24,b25,b26,b27,b28,b29,b30,b31,b32,b33,b34]
        | false=>simp[gX,CX,hfx,bx,dK,aO,aP,bu,dw,fb,har,ag,f2,f4,b0,bn,q1,q3,q4,q5,q6,q7,c2,hyr,hzr,ht,hro,hsg,-aN,-bm,-aY,hg4,hnc,b1,b2,b3,b4,b5,b6,b7,b8,b9,b10,b11,b12,b13,b14,b15,b16,b17,b18,b19,b20,b21,b22,b23,b24,b25,b26,b27,b28,b29,b30,b31,b32,b33,b34]
       ·simp[gX,CX,hfx,bx,dK,aO,aP,bu,dw,fb,har,ag,f2,f4,b0,bn,q1,q3,q4,q5,q6,c2,hyr,hzr,ht,hro,hsg,-aN,-bm,-aY,hg4,hnc,b1,b2,b3,b4,b5,b6,b7,b8,b9,b10,b11,b12,b13,b14,b15,b16,b17,b18,b19,b20,b21,b22,b23,b24,b25,b26,b27,b28,b29,b30,b31,b32,b33,b34]
  have:=fin t.name rfl _ rfl _ rfl;rw[e3] at this;exact this
theorem Lg (N:Nat) (x y:AV) (T:List aF) (vs:List Int) (hx:a6 x=some T) (hy:ft y=some vs) (hT:T.length < 1000000) (hv:vs.length < 100000) (t:Tm) (hok:ib t) (hg:bM T=true) (hsN:t.size≤N) (l2:¬ t.args.length=2):
 aw (cW Ft (Ho N)) 8 97 [.ptr 0 0,t.enc] ⟨1,[.row [x,y]],1,1⟩=some (.tuple [.str (j7 T (eS vs) t).1,.int .i64 (j7 T (eS vs) t).2],⟨1,[.row [x,y]],1,1⟩):=by
 have har:=ah t;have hfx:=fun h=>nV hx h 0 7
 have hlv:=fB t;have hte:t.enc=.agg [.int .i64 t.kind,.int .i64 t.num,.str t.name,t.aJ]:=by rw[Tm.ay];rfl
 have hi:(cZ T true t).2=false:=by
  cases h:(cZ T true t).2 with
  | false=>rfl
  | true=>exact absurd (eB h).1 l2
 have ht:=fU hx hy;have hro:=jS hx hy;have hsg:=hO hx hy;have hq:=fK (ln hok);have l2':((t.args.length:Int)=2)=False:=eq_false (by omega);rw[hte];simp only[Ft,Ho];unfold j7;rw[hi,if_neg (by simp)];by_cases l1:t.args.length=1
 ·obtain⟨y0,ha,hav,hy0⟩:=mJ l1;have hs:=aM t;rw[ha] at hs;simp only[Tm.aI] at hs;have oky:=dI hok (y:=y0) (by rw[ha];simp);have hye:y0.enc=.agg [.int .i64 y0.kind,.int .i64 y0.num,.str y0.name,y0.aJ]:=by rw[Tm.ay];rfl
  have hyr:=ah y0;have qp:=rV t.name;have q3:=n5 t.name;rw[hav,hy0]
  cases hpl:fY t.name with
  | false=>
    rw[hpl] at qp
    have:(dn T true t).2=false:=by
     cases h:(dn T true t).2 with
     | false=>rfl
     | true=>have:=(dV h).2.2.2.1;rw[hpl] at this;cases this
    rw[this,if_neg (by simp),hye];simp[gX,CX,hfx,bx,dK,aO,aP,bu,dw,fb,hyr,ag,qp]
  | true=>
    rw[hpl] at qp
    have pre:¬ (t.name=[45]∧y0.kind=1)→dn T true t=aQ T t.name true:=fun hh=>by
     unfold dn;rw[hpl,decide_eq_true l1,hy0]
     have:(decide (t.name=[45])&&decide (y0.kind=1))=false:=by
      rw[Bool.and_eq_false_iff];by_cases g:t.name=[45]
      ·exact .inr (decide_eq_false fun g2=>hh ⟨g,g2⟩)
      ·exact .inl (decide_eq_false g)
     rw[this];rfl
    by_cases hmk:t.name=[45]∧y0.kind=1
    ·have:(dn T true t).2=false:=by
      cases h:(dn T true t).2 with
      | false=>rfl
      | true=>exact absurd ⟨hmk.1,by rw[hy0];exact hmk.2⟩ (dV h).2.2.2.2
     rw[this,if_neg (by simp),hye];rw[hmk.1] at qp ⊢;simp[gX,CX,hfx,bx,dK,aO,aP,bu,dw,fb,hyr,ag,qp,hmk.2]
    ·rw[pre hmk]
     have go:∀nm:List UInt8,t.name=nm→∀mi:Bool,(nm==[45])=mi→(mi=true→(y0.kind=1)=False)→aw (cW [iM,nN,gL,gf] [jt N,lY,wh]) 8 97 [.ptr 0 0,.agg [.int .i64 t.kind,.int .i64 t.num,.str nm,.sl [y0.enc]]] ⟨1,[.row [x,y]],1,1⟩=
      some (.tuple [.str (if (aQ T nm true).2=true then (cb nm++[32]++wF T true (eS vs) y0 (bz (aQ T nm true).1).2 true,(aQ T nm true).1.l) else ([],0)).1,.int .i64 (if (aQ T nm true).2=true then (cb nm++[32]++wF T true (eS vs) y0 (bz (aQ T nm true).1).2 true,(aQ T nm true).1.l) else ([],0)).2],⟨1,[.row [x,y]],1,1⟩):=fun nm hnm mi hmi hk=>by
      rw[hnm] at qp q3 hq;rcases mP hg hx hT nm false with⟨f1,f2⟩ | ⟨f1,i,f2,f3,f4,f5⟩
      ·simp only[Bool.not_false] at f1;rw[f1,if_neg (by simp),hye]
       cases mi with
       | true=>
         have he':nm=[45]:=by simpa using hmi
         subst he';simp[gX,CX,hfx,bx,dK,aO,aP,bu,dw,fb,hyr,ag,qp,hk rfl,f2]
       | false=>
         have n45:¬ nm=[45]:=by simpa using hmi
         simp[gX,CX,hfx,bx,dK,aO,aP,bu,dw,fb,hyr,ag,qp,n45,hmi,f2]
      ·simp only[Bool.not_false] at f1 f4;have hp:=u4 hg f1;rw[f1,if_pos rfl];have q1:=zE (aQ T nm true).1 ⟨by omega,by omega⟩;have q4:=je N hx hy hT hv y0 ⟨⟨oky,hg⟩,by omega⟩ (bz (aQ T nm true).1).2 true;have l4:=eR T true (eS vs) (ij hv) y0 (bz (aQ T nm true).1).2 true oky;have hgt:=hok.1;simp only[dp,Bool.and_eq_true,decide_eq_true_eq] at hgt;have hls:(wF T true (eS vs) y0 (bz (aQ T nm true).1).2 true).length < 1000000:=by omega
       generalize wF T true (eS vs) y0 (bz (aQ T nm true).1).2 true=A at *;generalize bz (aQ T nm true).1=sd at *;obtain⟨s1,s2⟩:=sd;generalize cb nm=Q at *;clear f1 l4;generalize (aQ T nm true).1=o at *;obtain⟨on,ok,ol⟩:=o;dsimp only at q1 q4 ⊢;subst f3;have hpr:=aZ T;have hUl:(T.map aF.enc).length=T.length:=List.length_map _;have b0:(0:Int)≤(i:Int):=by omega
       have bn:((i:Int) < 0)=False:=eq_false (by omega);rw[hye] at q4 ⊢;generalize T.map aF.enc=U at *;simp only[aF.enc,aF.cells] at f4;have b1:Q.length+1 < 9223372036854775808:=by omega
       have b2:Q.length+1+A.length < 9223372036854775808:=by omega
       have b3:Q.length+(A.length+1) < 9223372036854775808:=by omega
       cases mi with
       | true=>
         have he':nm=[45]:=by simpa using hmi
         subst he';simp[gX,CX,hfx,bx,dK,aO,aP,bu,dw,fb,hyr,ag,qp,hk rfl,f2,f4,b0,bn,q1,q3,q4,ht,hro,hsg,-aN,-bm,-aY,b1,b2,b3]
       | false=>
         have n45:¬ nm=[45]:=by simpa using hmi
         simp[gX,CX,hfx,bx,dK,aO,aP,bu,dw,fb,hyr,ag,qp,n45,hmi,f2,f4,b0,bn,q1,q3,q4,ht,hro,hsg,-aN,-bm,-aY,b1,b2,b3]
     exact go t.name rfl _ rfl fun hm=>eq_false fun hk1=>hmk ⟨by simpa using hm,hk1⟩
 ·have l1':((t.args.length:Int)=1)=False:=eq_false (by omega)
  have:(dn T true t).2=false:=by
   cases h:(dn T true t).2 with
   | false=>rfl
   | true=>exact absurd (dV h).1 l1
  rw[this,if_neg (by simp)];simp[gX,CX,hfx,bx,dK,aO,aP,bu,dw,fb,har,ag,hlv,l2,l2',l1,l1']
theorem KT (N:Nat) (hN:ch Tryz.prog dm (jt N)):ch Tryz.prog dm (ow N):=fun args os v r hv=>by
 unfold ow at hv;dsimp only at hv;split at hv
 ·rename_i v0 os;split at hv
  ·rename_i D t hD ht;split at hv
   ·rename_i hc;cases hv;obtain⟨x,y,hx,hy,rfl,hT,hvl⟩:=nc hD;rw[bc ht,dh];have hE:dA Tryz.prog dm (cW Ft (Ho N)):=dv Qa (by simp[Ho,hN,Gz,O2])
    have e:aw (cW Ft (Ho N)) 8 97 [.ptr 0 0,t.enc] ⟨1,[.row [x,y]],1,1⟩=some (.tuple [.str (j7 D.T (eS D.vs) t).1,.int .i64 (j7 D.T (eS D.vs) t).2],⟨1,[.row [x,y]],1,1⟩):=by
     by_cases l2:t.args.length=2
     ·exact Ky N x y D.T D.vs hx hy hT hvl t hc.1.1 hc.1.2 (hc.2.1 l2) hc.2.2 l2
     ·exact Lg N x y D.T D.vs hx hy hT hvl t hc.1.1 hc.1.2 hc.2.2 l2
    exact u0 hE hx hy e (by simp[AV.refs,AV.af]) (by simp[AV.af,Tm.ba])
   ·cases hv
  ·cases hv
 ·cases hv
end Go.Proofs.YtjmeonoabiliiaaGreatDoor
