import Derived.Test.YtjmeonoabiliiaaGreatDoorAt
import Derived.Test.YtjmeonoabiliiaaGreatDoorBd3
import Derived.Test.YtjmeonoabiliiaaGreatDoorBd2
set_option linter.all false
set_option maxHeartbeats 16000000
set_option maxRecDepth 100000
namespace Go.Proofs.YtjmeonoabiliiaaGreatDoor
open Go Sz
section
def Ch(neg:Bool)(c:UInt8):Int:=if neg then -((c.toNat:Int)-48) else (c.toNat:Int)-48
def zw(neg:Bool):Int->List UInt8->Option Int
 |n,[]=>some n
 |n,c::r=>if rF (n*10)/\rF (n*10+Ch neg c) then zw neg (n*10+Ch neg c) r else none
theorem DT:∀(l:List UInt8) (v:Nat),eh l=true->v<=9223372036854775807->zw false v l=if nT v l<=9223372036854775807 then some (nT v l:Int) else none
 |[],v,_,h=>by rw[uj,if_pos h];rfl
 |c::r,v,hd,h=>by
   simp only[eh,eA,Bool.and_eq_true,decide_eq_true_eq] at hd;have hg:=Ce r (v*10+(c.toNat-48));have e:(v:Int)*10+Ch false c=((v*10+(c.toNat-48):Nat):Int):=by unfold Ch;rw[if_neg (by simp)];omega
   rw[rh];unfold zw;rw[e];unfold rF;by_cases hx:v*10+(c.toNat-48)<=9223372036854775807
   .rw[if_pos (by omega)];exact DT r _ hd.2 hx
   .rw[if_neg (by omega),if_neg (by omega)]
theorem JM:∀(l:List UInt8) (v:Nat),eh l=true->v<=9223372036854775808->zw true (-(v:Int)) l=if nT v l<=9223372036854775808 then some (-(nT v l:Int)) else none
 |[],v,_,h=>by rw[uj,if_pos h];rfl
 |c::r,v,hd,h=>by
   simp only[eh,eA,Bool.and_eq_true,decide_eq_true_eq] at hd;have hg:=Ce r (v*10+(c.toNat-48));have e:-(v:Int)*10+Ch true c=-((v*10+(c.toNat-48):Nat):Int):=by unfold Ch;rw[if_pos rfl];omega
   rw[rh];unfold zw;rw[e];unfold rF;by_cases hx:v*10+(c.toNat-48)<=9223372036854775808
   .rw[if_pos (by omega)];exact JM r _ hd.2 hx
   .rw[if_neg (by omega),if_neg (by omega)]
theorem uU(M:Nat)(hM:M<=18446744073709551615):∀(l:List UInt8) (aB:Nat),eh l=true->aB<=M->M<nT aB l->Lib.parseUintM M aB l=.range
 |[],aB,_,h1,h2=>by rw[uj] at h2;omega
 |c::r,aB,h,h1,hv=>by
   simp only[eh,eA,Bool.and_eq_true,decide_eq_true_eq] at h;rw[rh] at hv;unfold Lib.parseUintM;rw[if_pos h.1];split
   .rfl
   .split
    .rfl
    .exact uU M hM r _ h.2 (by omega) hv
theorem Dp(r:List UInt8)(hr:r≠[])(hd:eh r=true)(hv:¬nT 0 r<=9223372036854775808):Lib.parseIntB 64 (45::r)=.range:=by
 unfold Lib.parseIntB Lib.parseUintB;simp only[show (45:UInt8).toNat=45 from rfl,or_true,if_true,hr,if_false];rw[show (2^64-1:Nat)=18446744073709551615 by decide];by_cases h:nT 0 r<=18446744073709551615
 .rw[o6 18446744073709551615 (Nat.le_refl _) r 0 hd h];simp only[not_true,false_and,if_false,true_and];rw[if_pos (by omega)]
 .rw[uU 18446744073709551615 (Nat.le_refl _) r 0 hd (by omega) (by omega)]
theorem Dz(s:List UInt8)(hr:s≠[])(hd:eh s=true)(hv:¬nT 0 s<=9223372036854775807):Lib.parseIntB 64 s=.range:=by
 cases s with
 |nil=>exact absurd rfl hr
 |cons c r=>
   have hc:48<=c.toNat/\c.toNat<=57:=by simp only[eh,eA,Bool.and_eq_true,decide_eq_true_eq] at hd;exact hd.1
   unfold Lib.parseIntB Lib.parseUintB;simp only[show (c.toNat=43)=False from eq_false (by omega),show (c.toNat=45)=False from eq_false (by omega),or_false,if_false,hr];rw[show (2^64-1:Nat)=18446744073709551615 by decide];by_cases h:nT 0 (c::r)<=18446744073709551615
   .rw[o6 18446744073709551615 (Nat.le_refl _) (c::r) 0 hd h];simp only[not_false_iff,true_and,false_and,if_false];rw[if_pos (by omega)]
   .rw[uU 18446744073709551615 (Nat.le_refl _) (c::r) 0 hd (by omega) (by omega)]
theorem MC(r:List UInt8):jf (45::r)=if r=[] then ((0:Int),(2:Int)) else if eh r=false then (0,2) else match zw true 0 r with|some v=>(v,0)|none=>(0,3):=by
 unfold jf;rw[EC];dsimp only;by_cases hr:r=[]
 .rw[if_pos hr,if_pos hr]
 rw[if_neg hr,if_neg hr]
 cases hd:eh r with
 |false=>rfl
 |true=>
   rw[if_neg (by simp),if_neg (by simp)];have e:=JM r 0 hd (by omega);rw[show (-((0:Nat):Int))=0 by rfl] at e;rw[e];by_cases hv:nT 0 r<=9223372036854775808
   .rw[if_pos hv,QD r hr hd hv]
   .rw[if_neg hv,Dp r hr hd hv]
theorem Dq(c:UInt8)(r:List UInt8)(hc:c≠45):jf (c::r)=if eh (c::r)=false then ((0:Int),(2:Int)) else match zw false 0 (c::r) with|some v=>(v,0)|none=>(0,3):=by
 unfold jf;rw[C2 c r hc];dsimp only;rw[if_neg (by simp)]
 cases hd:eh (c::r) with
 |false=>rfl
 |true=>
   rw[if_neg (by simp),if_neg (by simp)];have e:=DT (c::r) 0 hd (by omega);rw[show (((0:Nat):Int))=0 by rfl] at e;rw[e];by_cases hv:nT 0 (c::r)<=9223372036854775807
   .rw[if_pos hv,Q9 (c::r) (by simp) hd hv]
   .rw[if_neg hv,Dz (c::r) (by simp) hd hv]
def Cc:List aX:=[uM,I8]
theorem abe:∀s∈Cc,aY Tryz.prog s:=by simp[Cc,zC,XT]
theorem AX(n:Nat)(s:List UInt8)(i:Int)(neg:Bool)(hl:s.length<1000000000):∀(post pre:List UInt8) (m:Nat),s=pre++post->post.length<m->
 gu 0 0 (bL (aH (aF (cY Cc) (n+1)) (n+1) xL) kQ 0 m (XO (.str s) (.int .i64 i) (.bool neg) (.int .i64 pre.length)) ⟨0,[],0,0⟩)=
  some (if eh post then .exit 0 else .ret,if eh post then FM 75 [(0,.str s),(4,.int .i64 i),(5,.bool neg)] else FM 75 [(2,.int .i64 0),(3,.int .i64 2)],⟨0,[],0,0⟩)
 |[],pre,m+1,e,_=>by simp at e;subst e;rw[ak];simp[xL,kQ,eh]
 |c::post,pre,m+1,e,hm=>by
   have h1:s[pre.length]? =some c:=by rw[e];simp
   have EN:pre.length<s.length:=by rw[e];simp
   have h3:IntKind.i64.wrap ((pre.length:Int)+1)=(pre.length:Int)+1:=wrap_i64 (by omega) (by omega);have h6:((pre.length:Int)<(s.length:Int))=True:=eq_true (by omega);have ih:=AX n s i neg hl post (pre++[c]) m (by simp[e]) (by rw[List.length_cons] at hm;omega);simp only[List.length_append,List.length_cons,List.length_nil,Nat.zero_add,Int.natCast_add,Int.natCast_one] at ih;have hd:=vS c;rw[ak]
   cases hc:eA c with
   |false=>rw[hc] at hd;simp[xL,kQ,h1,h3,h6,hd,hc,eh,Cc,bO,lq]
   |true=>rw[hc] at hd;simp only[Cc] at ih;simp[xL,kQ,h1,h3,h6,hd,hc,eh,Cc,bO,lq];exact ih
def Xi:Option Int->Ex|some _=>.exit 2|none=>.ret
def Xf:Option Int->List AV|some v=>FM 75 [(7,.int .i64 v)]|none=>FM 75 [(2,.int .i64 0),(3,.int .i64 3)]
theorem Cx:rF 0:=by unfold rF;omega
theorem DU(n:Nat)(s:List UInt8)(neg:Bool)(hl:s.length<1000000000):∀(post pre:List UInt8) (v:Int) (m:Nat),s=pre++post->eh post=true->rF v->post.length<m->
 gu 0 0 (bL (aH (aF (cY Cc) (n+1)) (n+1) oJ) jz 0 m (YV (.str s) (.int .i64 pre.length) (.bool neg) (.int .i64 v)) ⟨0,[],0,0⟩)=
  some (Xi (zw neg v post),Xf (zw neg v post),⟨0,[],0,0⟩)
 |[],pre,v,m+1,e,_,_,_=>by simp at e;subst e;rw[ak];simp[oJ,jz,zw,Xi,Xf]
 |c::post,pre,v,m+1,e,hd,hv,hm=>by
   simp only[eh,eA,Bool.and_eq_true,decide_eq_true_eq] at hd;obtain⟨hc,hd⟩:=hd;have h1:s[pre.length]? =some c:=by rw[e];simp
   have EN:pre.length<s.length:=by rw[e];simp
   have h3:IntKind.i64.wrap ((pre.length:Int)+1)=(pre.length:Int)+1:=wrap_i64 (by omega) (by omega);have h6:((pre.length:Int)<(s.length:Int))=True:=eq_true (by omega);have w1:IntKind.u8.wrap ((c.toNat:Int)-48)=(c.toNat:Int)-48:=wrap_u8 (by omega) (by omega);have w2:IntKind.i64.wrap ((c.toNat:Int)-48)=(c.toNat:Int)-48:=wrap_i64 (by omega) (by omega);have w3:IntKind.i64.wrap (0-((c.toNat:Int)-48))=0-((c.toNat:Int)-48):=wrap_i64 (by omega) (by omega);have q1:=S0 v hv;have hdd:rF (Ch neg c):=by unfold rF Ch;split<;>omega
   have hfv:rF (oK (v*10)):=by
    unfold oK;split
    .assumption
    .exact Cx
   have q2:=Vg (oK (v*10)) (Ch neg c) hfv hdd;have SU:Ch neg c=if neg then 0-((c.toNat:Int)-48) else (c.toNat:Int)-48:=by unfold Ch;split<;>omega
   unfold zw;rw[ak];by_cases k1:rF (v*10)
   .have e1:oK (v*10)=v*10:=if_pos k1;have e2:r7 (v*10)=0:=if_pos k1;rw[e1,e2] at q1;rw[e1] at q2;by_cases k2:rF (v*10+Ch neg c)
    .have ih:=DU n s neg hl post (pre++[c]) (v*10+Ch neg c) m (by simp[e]) hd k2 (by rw[List.length_cons] at hm;omega);simp only[List.length_append,List.length_cons,List.length_nil,Nat.zero_add,Int.natCast_add,Int.natCast_one,Cc] at ih;rw[if_pos ⟨k1,k2⟩];have e3:oK (v*10+Ch neg c)=v*10+Ch neg c:=if_pos k2;have e4:r7 (v*10+Ch neg c)=0:=if_pos k2;rw[e3,e4] at q2;generalize v*10+Ch neg c=x at *;generalize v*10=y at *;generalize Ch neg c=z at *
     cases neg with
     |true=>simp only[if_true] at SU;subst SU;simp[oJ,jz,h1,h3,h6,w1,w2,w3,q1,q2,Cc,bO,lq,-Int.zero_sub];exact ih
     |false=>simp only[Bool.false_eq_true,if_false] at SU;subst SU;simp[oJ,jz,h1,h3,h6,w1,w2,w3,q1,q2,Cc,bO,lq];exact ih
    .rw[if_neg (λh=>k2 h.2)];have e4:r7 (v*10+Ch neg c)=3:=if_neg k2;rw[e4] at q2;generalize oK (v*10+Ch neg c)=x at *;generalize v*10=y at *;generalize Ch neg c=z at *
     cases neg with
     |true=>simp only[if_true] at SU;subst SU;simp[oJ,jz,h1,h3,h6,w1,w2,w3,q1,q2,Cc,bO,lq,Xi,Xf,-Int.zero_sub]
     |false=>simp only[Bool.false_eq_true,if_false] at SU;subst SU;simp[oJ,jz,h1,h3,h6,w1,w2,w3,q1,q2,Cc,bO,lq,Xi,Xf]
   .rw[if_neg (λh=>k1 h.1)];have e2:r7 (v*10)=3:=if_neg k1;rw[e2] at q1;generalize r7 (oK (v*10)+Ch neg c)=u at *;generalize oK (oK (v*10)+Ch neg c)=x at *;generalize oK (v*10)=y at *;generalize Ch neg c=z at *
    cases neg with
    |true=>simp only[if_true] at SU;subst SU;simp[oJ,jz,h1,h3,h6,w1,w2,w3,q1,q2,Cc,bO,lq,Xi,Xf,-Int.zero_sub]
    |false=>simp only[Bool.false_eq_true,if_false] at SU;subst SU;simp[oJ,jz,h1,h3,h6,w1,w2,w3,q1,q2,Cc,bO,lq,Xi,Xf]
def x8:aX:=⟨148,λ|[.str s]=>if s.length<1000000000 then some (.tuple [.int .i64 (jf s).1,.int .i64 (jf s).2]) else none|_=>none⟩
theorem cJ:x8.f=148:=(rfl)
theorem No(s:List UInt8)(h:s.length<1000000000):x8.S [.str s]=some (.tuple [.int .i64 (jf s).1,.int .i64 (jf s).2]):=if_pos h
theorem L6:aY Tryz.prog x8:=λag v hv=>by
 unfold x8 at hv|-;dsimp only at hv|-;split at hv
 .rename_i s;split at hv
  .rename_i hl;cases hv;refine bG (n:=s.length+5) (h':=h0) (bA abe) ?_ rfl rfl
   cases s with
   |nil=>
     have:jf []=(0,2):=by decide
     rw[this];simp[tR,c148,Cc,bO,lq]
   |cons c r=>
     by_cases hc:c=45
     .subst hc;rw[MC];have n1:((r.length:Int)+1<=1)=(r=[]):=propext ⟨λh=>List.eq_nil_of_length_eq_zero (by omega),λh=>by subst h;simp⟩;have t1:((0:Int)<(r.length:Int)+1)=True:=eq_true (by omega);by_cases hr:r=[]
      .subst hr;simp[tR,c148,Cc,bO,lq]
      .have sc:=AX (r.length+4) (45::r) 1 true hl r [45] (r.length+5) rfl (by omega);have nm:=DU (r.length+4) (45::r) true hl r [45] 0 (r.length+5) rfl;simp only[List.length_cons,List.length_nil,Nat.zero_add,Int.natCast_one,Cc,kQ,jz] at sc nm;rw[if_neg hr]
       cases hd:eh r with
       |false=>rw[hd] at sc;simp only[Bool.false_eq_true,if_false] at sc;simp[tR,c148,kQ,Cc,bO,lq,n1,t1,hr,sc]
       |true=>
         rw[hd] at sc;simp only[if_true] at sc;have nm:=nm hd Cx (by omega)
         cases hx:zw true 0 r with
         |none=>rw[hx] at nm;simp only[Xi,Xf] at nm;simp[tR,c148,kQ,jz,Cc,bO,lq,n1,t1,hr,sc,nm]
         |some x=>rw[hx] at nm;simp only[Xi,Xf] at nm;simp[tR,c148,kQ,jz,Cc,bO,lq,n1,t1,hr,sc,nm]
     .rw[Dq c r hc];have n2:((c.toNat:Int)=45)=False:=eq_false λh=>hc (UInt8.toNat_inj.1 (by show c.toNat=45;omega))
      have n1:((r.length:Int)+1<=0)=False:=eq_false (by omega);have t1:((0:Int)<(r.length:Int)+1)=True:=eq_true (by omega);have sc:=AX (r.length+4) (c::r) 0 false hl (c::r) [] (r.length+5) rfl (by simp);have nm:=DU (r.length+4) (c::r) false hl (c::r) [] 0 (r.length+5) rfl;simp only[List.length_nil,show ((0:Nat):Int)=0 from rfl,Cc,kQ,jz] at sc nm
      cases hd:eh (c::r) with
      |false=>rw[hd] at sc;simp only[Bool.false_eq_true,if_false] at sc;simp[tR,c148,kQ,Cc,bO,lq,n1,n2,t1,sc]
      |true=>
        rw[hd] at sc;simp only[if_true] at sc;have nm:=nm hd Cx (by simp)
        cases hx:zw false 0 (c::r) with
        |none=>rw[hx] at nm;simp only[Xi,Xf] at nm;simp[tR,c148,kQ,jz,Cc,bO,lq,n1,n2,t1,sc,nm]
        |some x=>rw[hx] at nm;simp only[Xi,Xf] at nm;simp[tR,c148,kQ,jz,Cc,bO,lq,n1,n2,t1,sc,nm]
  .cases hv
 .cases hv
def x5:aX:=MX 144 mG
theorem cB:x5.f=144:=(rfl)
theorem Dn(c:UInt8):x5.S [.int .u8 c.toNat]=some (.bool (mG c)):=lZ _ _ c
theorem Ec:aY Tryz.prog x5:=pk λc=>by
 refine bG (n:=4) (h':=h0) (bA (ss:=[]) (by simp)) ?_ rfl rfl;unfold mG;have e97:((97:Int)<=(c.toNat:Int))=(97<=c.toNat):=propext ⟨λh=>by omega,λh=>by omega⟩;have W5:((c.toNat:Int)<=122)=(c.toNat<=122):=propext ⟨λh=>by omega,λh=>by omega⟩;by_cases h1:97<=c.toNat
 .by_cases h2:c.toNat<=122
  all_goals simp[Vh,UU,e97,W5,h1,h2]
 .simp[Vh,UU,e97,W5,h1]
def yH:aX:=MX 145 l5
theorem cA:yH.f=145:=(rfl)
theorem CU(c:UInt8):yH.S [.int .u8 c.toNat]=some (.bool (l5 c)):=lZ _ _ c
theorem Cu:aY Tryz.prog yH:=pk λc=>by
 refine bG (n:=4) (h':=h0) (bA (ss:=[]) (by simp)) ?_ rfl rfl;unfold l5;have e65:((65:Int)<=(c.toNat:Int))=(65<=c.toNat):=propext ⟨λh=>by omega,λh=>by omega⟩;have e90:((c.toNat:Int)<=90)=(c.toNat<=90):=propext ⟨λh=>by omega,λh=>by omega⟩;have e:((c.toNat:Int)=95)=(c.toNat=95):=propext ⟨λh=>by omega,λh=>by omega⟩;by_cases h1:65<=c.toNat
 .by_cases h2:c.toNat<=90
  .simp[MK,c145,e65,e90,h1,h2]
  .by_cases h3:c.toNat=95
   all_goals simp[MK,c145,e65,e90,h1,h2,h3,e]
 .by_cases h3:c.toNat=95
  all_goals simp[MK,c145,e65,e90,h1,h3,e]
def Hr:aX:=MX 146 jG
theorem da:Hr.f=146:=(rfl)
theorem R9(c:UInt8):Hr.S [.int .u8 c.toNat]=some (.bool (jG c)):=lZ _ _ c
theorem Sa:aY Tryz.prog Hr:=pk λc=>by refine bG (n:=4) (h':=h0) (bA (ss:=[x5,yH,uM]) (by simp[Ec,Cu,zC])) ?_ rfl rfl;have c1:=Dn c;have c2:=CU c;have c3:=vS c;unfold jG;cases h1:mG c<;>cases h2:l5 c<;>cases h3:eA c<;>rw[h1] at c1<;>rw[h2] at c2<;>rw[h3] at c3<;>simp[acp,c146,c1,c2,c3,cB,cA,bO]
def yg:aX:=MX 109 kB
theorem cQ:yg.f=109:=(rfl)
theorem xf(c:UInt8):yg.S [.int .u8 c.toNat]=some (.bool (kB c)):=lZ _ _ c
theorem D9:aY Tryz.prog yg:=pk λc=>by
 refine bG (n:=4) (h':=h0) (bA (ss:=[]) (by simp)) ?_ rfl rfl;unfold kB;have e:∀k:Nat,((c.toNat:Int)=(k:Int))=(c.toNat=k):=λk=>propext ⟨λh=>by omega,λh=>by omega⟩
 have e1:=e 32;have e2:=e 9;have e3:=e 10;have e4:=e 13;by_cases h1:c.toNat=32
 .simp[Ef,c109,h1]
 .by_cases h2:c.toNat=9
  .simp[Ef,c109,h2]
  .by_cases h3:c.toNat=10
   .simp[Ef,c109,h3]
   .by_cases h4:c.toNat=13
    .simp[Ef,c109,h4]
    .rw[eq_false h1] at e1;rw[eq_false h2] at e2;rw[eq_false h3] at e3;rw[eq_false h4] at e4;simp[Ef,c109,h1,h2,h3,h4,show ((c.toNat:Int)=32)=False from e1,show ((c.toNat:Int)=9)=False from e2,show ((c.toNat:Int)=10)=False from e3,show ((c.toNat:Int)=13)=False from e4]
def abq(b:Bool)(R:Option (Ex×List AV×ai)):Prop:=(b=true/\R=some (.ret,FM 16 [(2,.bool true)],⟨0,[],0,0⟩))\/(b=false/\R=some (.exit 0,FM 16 [],⟨0,[],0,0⟩))
theorem G2(n:Nat)(c:UInt8)(L:List UInt8)(hL:L.length<1000000000):∀(post pre:List UInt8) (m:Nat),L=pre++post->post.length<m->
 abq (post.any λd=>decide (d.toNat=c.toNat)) (gu 0 0 (bL (aH (aF (cY []) (n+1)) (n+1) yw) sC 0 m (PI (.int .u8 c.toNat) (.str L) (.int .i64 pre.length)) ⟨0,[],0,0⟩))
 |_,_,0,_,h=>by omega
 |[],pre,m+1,hs,_=>by rw[ak];rw[List.append_nil] at hs;subst hs;exact .inr ⟨rfl,by simp[yw,sC]⟩
 |d::r,pre,m+1,hs,hm=>by
   rw[ak];have EN:pre.length+r.length+1=L.length:=by rw[hs];simp;omega
   have h1:L[pre.length]? =some d:=by rw[hs];simp
   have h3:IntKind.i64.wrap ((pre.length:Int)+1)=(pre.length:Int)+1:=wrap_i64 (by omega) (by omega);have h6:((pre.length:Int)<(L.length:Int))=True:=eq_true (by omega);rw[List.any_cons];by_cases h:d.toNat=c.toNat
   .have h':((d.toNat:Int)=(c.toNat:Int))=True:=eq_true (by omega);rw[decide_eq_true h];exact .inl ⟨rfl,by simp[yw,sC,h1,h6,h']⟩
   .have h':((d.toNat:Int)=(c.toNat:Int))=False:=eq_false (by omega);rw[decide_eq_false h,Bool.false_or];have ih:=G2 n c L hL r (pre++[d]) m (by rw[hs];simp) (by simp at hm;omega);simp only[List.length_append,List.length_cons,List.length_nil,Nat.zero_add,Int.natCast_add,Int.natCast_one] at ih;simp[yw,sC,h1,h3,h6,h'];exact ih
def ON:aX:=MX 151 wP
theorem dI:ON.f=151:=(rfl)
theorem Jr(c:UInt8):ON.S [.int .u8 c.toNat]=some (.bool (wP c)):=lZ _ _ c
theorem Wj:aY Tryz.prog ON:=pk λc=>by
 refine bG (n:=32) (h':=h0) (bA (ss:=[]) (by simp)) ?_ rfl rfl;have lp:=G2 30 c Fj (by decide) Fj [] 31 rfl (by decide);simp only[PI,sC,Fj,List.length_nil,Int.natCast_zero] at lp;unfold wP;simp only[Fj];generalize (List.any _ _:Bool)=b at *;rcases lp with⟨e1,e2⟩|⟨e1,e2⟩
 all_goals subst e1;simp[abu,Yb,sC,e2]
noncomputable def zy:aX:=⟨150,λ
 |[.str s,.int .i64 i]=>if s.length<1000000000/\0<=i/\i<=s.length then some (.bool (ox (s.drop i.toNat))) else none
 |_=>none⟩
theorem cZ:zy.f=150:=(rfl)
theorem Fz(s:List UInt8)(k:Nat)(hl:s.length<1000000000)(hk:k<=s.length):zy.S [.str s,.int .i64 k]=some (.bool (ox (s.drop k))):=by simp only[zy];rw[if_pos ⟨hl,by omega,by omega⟩,Int.toNat_natCast]
theorem Sl:aY Tryz.prog zy:=λag v hv=>by
 unfold zy at hv|-;dsimp only at hv|-;split at hv
 .rename_i s i;split at hv
  .rename_i hc;cases hv;obtain⟨k,rfl⟩:∃k:Nat,i=(k:Int):=⟨i.toNat,by omega⟩
   rw[Int.toNat_natCast];refine bG (n:=5) (h':=h0) (bA (ss:=[yg]) (by simp[D9])) ?_ (by simp[AV.aK]) (by simp[AV.aK,AV.aw]);have h3:IntKind.i64.wrap ((k:Int)+1)=(k:Int)+1:=wrap_i64 (by omega) (by omega);by_cases hk:k=s.length
   .have h6:((k:Int)<(s.length:Int))=False:=eq_false (by omega);have hd:s.drop k=[]:=by rw[hk];exact List.drop_length
    rw[hd];simp[Ew,JE,h6,ox,cQ]
   obtain⟨c,h1,hd⟩:=gp (s:=s) (k:=k) (by omega);have h6:((k:Int)<(s.length:Int))=True:=eq_true (by omega);rw[hd];by_cases h46:c.toNat=46
   .have e1:((c.toNat:Int)=46)=True:=eq_true (by omega);by_cases W6:k+1=s.length
    .have hn:s.drop (k+1)=[]:=by rw[W6];exact List.drop_length
     have e2:((k:Int)+1=(s.length:Int))=True:=eq_true (by omega);rw[hn,zu,decide_eq_true h46];simp[Ew,JE,h1,h3,h6,e1,e2,cQ]
    .obtain⟨d,h2,WT⟩:=gp (s:=s) (k:=k+1) (by omega);have e2:((k:Int)+1=(s.length:Int))=False:=eq_false (by omega);have c1:=xf d;have Qi:((k:Int)+1).toNat=k+1:=by omega
     have aai:((0:Int)<=(k:Int)+1)=True:=eq_true (by omega);rw[WT,AP,decide_eq_true h46]
     cases hb:kB d with
     |true=>rw[hb] at c1;simp[Ew,JE,h1,h2,Qi,aai,h3,h6,e1,e2,c1,cQ]
     |false=>
       rw[hb] at c1;by_cases Qk:d.toNat=37;have e3:((d.toNat:Int)=37)=True:=eq_true (by omega);rw[decide_eq_true Qk]
       rotate_left
       have e3:((d.toNat:Int)=37)=False:=eq_false (by omega);rw[decide_eq_false Qk]
       rotate_left
       all_goals simp[Ew,JE,h1,h2,Qi,aai,h3,h6,e1,e2,e3,c1,cQ]
   .have e1:((c.toNat:Int)=46)=False:=eq_false (by omega);rw[FO h46];simp[Ew,JE,h1,h3,h6,e1,cQ]
  .cases hv
 .cases hv
theorem zX{s:List UInt8}{X:Int}{k:Nat}{c:UInt8}(hX:X=(k:Int))(hc:s[k]? =some c):sliceB s.length (some (.int .i64 X)) (some (.int .i64 (X+1)))=some (k,k+1)/\(s.take (k+1)).drop k=[c]:=by
 subst hX;obtain⟨hk,rfl⟩:=List.getElem?_eq_some_iff.1 hc;refine⟨?_,by rw[List.drop_take,Nat.add_sub_cancel_left,List.drop_eq_getElem_cons hk];rfl⟩;have a1:(0:Int)<=(k:Int)+1/\(k:Int)+1<=(s.length:Int):=by omega
 have a2:(k:Int)<=(k:Int)+1:=by omega
 have a3:((k:Int)+1).toNat=k+1:=by omega
 simp[sliceB,a1,a2,a3]
def agt(q:Option (List UInt8)×Nat)(q0:Nat)(R:Option (Ex×List AV×ai)):Prop:=
 ∃cq,(∃t,q.1=some t/\((t.length<=64/\R=some (.ret,FM 102 [(4,.ptr 0 0),(5,.int .i64 (q0+q.2:Nat)),(6,.int .i64 0)],⟨1,[.row (cK 2 t 0)],0,cq⟩))\/
  (64<t.length/\R=some (.ret,FM 102 [(4,.ptr 0 0),(5,.int .i64 0),(6,.int .i64 3)],⟨1,[.row (cK 0 [] 0)],0,cq⟩))))\/
   (q.1=none/\R=some (.ret,FM 102 [(4,.ptr 0 0),(5,.int .i64 0),(6,.int .i64 2)],⟨1,[.row (cK 0 [] 0)],0,cq⟩))\/
   (q.1=none/\R=some (.exit 0,FM 102 [(4,.ptr 0 0)],⟨1,[.row (cK 0 [] 0)],0,cq⟩))
theorem vg(n:Nat)(s:List UInt8)(hl:s.length<1000000000)(q0:Nat):∀(f:Nat) (aB:List UInt8) (j m md:Nat),aB.length<=j->q0+j<=s.length->s.length-(q0+j)<f->f<=m->
 agt (iJ f (s.drop (q0+j)) aB j) q0 (gu 1 0 (bL (aH (aF (cY []) (n+1)) (n+1) iV) gv 1 m (Hd (.str s) (.ptr 0 0) (.str aB) (.int .i64 (q0+j:Nat))) ⟨1,[.row (cK 0 [] 0)],1,md⟩))
 |0,aB,j,m,md,haj,hk,h,_=>by omega
 |f+1,aB,j,0,md,haj,_,_,h=>by omega
 |f+1,aB,j,m+1,md,haj,hk,hf0,hm=>by
   rw[ak];by_cases he:q0+j=s.length
   .have hd:s.drop (q0+j)=[]:=by rw[he];exact List.drop_length
    have h6:((q0:Int)+(j:Int)<(s.length:Int))=False:=eq_false (by omega);rw[hd,Cg];refine⟨md,.inr (.inr ⟨rfl,?_⟩)⟩;simp[iV,gv,h6]
   .obtain⟨c,h1,hd⟩:=gp (s:=s) (k:=q0+j) (by omega);have h6:((q0:Int)+(j:Int)<(s.length:Int))=True:=eq_true (by omega);have h3:IntKind.i64.wrap ((q0:Int)+(j:Int)+1)=(q0:Int)+(j:Int)+1:=wrap_i64 (by omega) (by omega);have tH:IntKind.i64.wrap ((q0:Int)+(j:Int)+1+1)=(q0:Int)+(j:Int)+1+1:=wrap_i64 (by omega) (by omega);have h9:(aB.length+1<9223372036854775808)=True:=eq_true (by omega);have n0:(0<=(q0:Int)+(j:Int))=True:=eq_true (by omega);have n1:(0<=(q0:Int)+(j:Int)+1)=True:=eq_true (by omega);have n2:((q0:Int)+(j:Int)).toNat=q0+j:=by omega
    have n3:((q0:Int)+(j:Int)+1).toNat=q0+j+1:=by omega
    have LR:((q0:Int)+((j:Int)+1))=(q0:Int)+(j:Int)+1:=by omega
    have e2:((q0:Int)+((j:Int)+((2:Nat):Int)))=(q0:Int)+(j:Int)+1+1:=by omega
    obtain⟨Qm,Qn⟩:=zX (s:=s) (X:=(q0:Int)+(j:Int)) (k:=q0+j) (by omega) h1;rw[hd]
    have ni:(s.drop (q0+j+1)=[]/\((q0:Int)+(j:Int)+1<(s.length:Int))=False/\((s.length:Int)<=(q0:Int)+(j:Int)+1)=True)\/∃d,s[q0+j+1]? =some d/\s.drop (q0+j+1)=d::s.drop (q0+j+2)/\((q0:Int)+(j:Int)+1<(s.length:Int))=True/\((s.length:Int)<=(q0:Int)+(j:Int)+1)=False:=by
     by_cases hx:q0+j+1<s.length
     .obtain⟨d,a1,a2⟩:=gp (s:=s) (k:=q0+j+1) hx;exact .inr ⟨d,a1,a2,eq_true (by omega),eq_false (by omega)⟩
     .exact .inl ⟨List.drop_eq_nil_of_le (by omega),eq_false (by omega),eq_true (by omega)⟩
    by_cases k1:c.toNat=39
    .have tI:((c.toNat:Int)=39)=True:=eq_true (by omega);have fin:∀t:List UInt8,t=aB->(t.length<=64\/64<t.length):=λt _=>by omega
     rcases ni with⟨x1,x2,x4⟩|⟨d,x0,x1,x2,x4⟩
     .rw[x1,He k1];by_cases k3:64<aB.length;have kj:((64:Int)<(aB.length:Int))=True:=eq_true (by omega);refine⟨0,.inl ⟨aB,rfl,.inr ⟨k3,?_⟩⟩⟩
      rotate_left
      have kj:((64:Int)<(aB.length:Int))=False:=eq_false (by omega);refine⟨0,.inl ⟨aB,rfl,.inl ⟨by omega,?_⟩⟩⟩
      rotate_left
      all_goals simp[iV,gv,cK,h1,h6,h3,n0,n2,LR,h9,tI,kj,x2]
     .rw[x1];by_cases k2:d.toNat=39
      .have IX:((d.toNat:Int)=39)=True:=eq_true (by omega);have x3:=(List.getElem?_eq_some_iff.1 x0).1;rw[Iy k1 k2];obtain rfl:c=39:=UInt8.toNat_inj.1 k1;have ih:=vg n s hl q0 f (aB++[39]) (j+2) m md (by simp;omega) (by omega) (by omega) (by omega);rw[show q0+(j+2)=q0+j+2 by omega] at ih;simp only[Int.natCast_add,cK] at ih;simp only[show ((q0:Int)+(j:Int)+((2:Nat):Int))=(q0:Int)+(j:Int)+1+1 by omega] at ih;simp[iV,gv,cK,h1,h6,h3,n0,n2,LR,h9,tH,n1,n3,IX,x0,x2];exact ih
      .have IX:((d.toNat:Int)=39)=False:=eq_false (by omega);rw[Ic k1 k2];by_cases k3:64<aB.length;have kj:((64:Int)<(aB.length:Int))=True:=eq_true (by omega);refine⟨0,.inl ⟨aB,rfl,.inr ⟨k3,?_⟩⟩⟩
       rotate_left
       have kj:((64:Int)<(aB.length:Int))=False:=eq_false (by omega);refine⟨0,.inl ⟨aB,rfl,.inl ⟨by omega,?_⟩⟩⟩
       rotate_left
       all_goals simp[iV,gv,cK,h1,h6,h3,n0,n2,LR,h9,n1,n3,tI,IX,kj,x0,x2]
    have tI:((c.toNat:Int)=39)=False:=eq_false (by omega);by_cases k4:c.toNat=92
    .have gT:((c.toNat:Int)=92)=True:=eq_true (by omega);have k2:¬(c.toNat<32\/126<c.toNat):=by omega
     rcases ni with⟨x1,x2,x4⟩|⟨d,x0,x1,x2,x4⟩
     .rw[x1,HD k4];refine⟨0,.inr (.inl ⟨rfl,?_⟩)⟩;simp[iV,gv,cK,h1,h6,h3,n0,n2,LR,h9,tI,gT,x4]
     .rw[x1];have x3:=(List.getElem?_eq_some_iff.1 x0).1;obtain⟨dl1,dl2⟩:=zX (s:=s) (X:=(q0:Int)+(j:Int)+1) (k:=q0+j+1) (by omega) x0
      have key:∀b,wS d=some b->∀R,R=gu 1 0 (bL (aH (aF (cY []) (n+1)) (n+1) iV) gv 1 m (Hd (.str s) (.ptr 0 0) (.str (aB++[b])) (.int .i64 (q0+j+2:Nat))) ⟨1,[.row (cK 0 [] 0)],1,md⟩)->agt (iJ (f+1) (c::d::s.drop (q0+j+2)) aB j) q0 R:=λb hb R hR=>by rw[Iz k4 hb,hR];have ih:=vg n s hl q0 f (aB++[b]) (j+2) m md (by simp;omega) (by omega) (by omega) (by omega);rw[show q0+(j+2)=q0+j+2 by omega] at ih;exact ih
      have cast:(((q0+j+2:Nat)):Int)=(q0:Int)+(j:Int)+1+1:=by omega
      rw[cast] at key;by_cases m1:d.toNat=110
      .have m1':((d.toNat:Int)=110)=True:=eq_true (by omega);refine key 10 (by unfold wS;rw[if_pos m1]) _ ?_;simp[iV,gv,cK,h1,h6,h3,n0,n2,LR,h9,tH,n1,n3,x0,tI,gT,x4,m1']
      have m1':((d.toNat:Int)=110)=False:=eq_false (by omega);by_cases m2:d.toNat=116
      .have m2':((d.toNat:Int)=116)=True:=eq_true (by omega);refine key 9 (by unfold wS;rw[if_neg m1,if_pos m2]) _ ?_;simp[iV,gv,cK,h1,h6,h3,n0,n2,LR,h9,tH,n1,n3,x0,tI,gT,x4,m1',m2']
      have m2':((d.toNat:Int)=116)=False:=eq_false (by omega);by_cases m3:d.toNat=92
      .have m3':((d.toNat:Int)=92)=True:=eq_true (by omega);refine key d (by unfold wS;rw[if_neg m1,if_neg m2,if_pos m3];exact congrArg some (UInt8.toNat_inj.1 (by rw[m3];rfl))) _ ?_;simp[iV,gv,cK,h1,h6,h3,n0,n2,LR,h9,tH,n1,n3,x0,tI,gT,x4,m1',m2',m3',dl1,dl2]
      have m3':((d.toNat:Int)=92)=False:=eq_false (by omega);by_cases m4:d.toNat=39
      .have m4':((d.toNat:Int)=39)=True:=eq_true (by omega);refine key d (by unfold wS;rw[if_neg m1,if_neg m2,if_neg m3,if_pos m4];exact congrArg some (UInt8.toNat_inj.1 (by rw[m4];rfl))) _ ?_;simp[iV,gv,cK,h1,h6,h3,n0,n2,LR,h9,tH,n1,n3,x0,tI,gT,x4,m1',m2',m3',m4',dl1,dl2]
      have m4':((d.toNat:Int)=39)=False:=eq_false (by omega);rw[Ib k4 (by unfold wS;rw[if_neg m1,if_neg m2,if_neg m3,if_neg m4])];refine⟨0,.inr (.inl ⟨rfl,?_⟩)⟩;simp[iV,gv,cK,h1,h6,h3,n0,n2,LR,h9,tH,n1,n3,x0,tI,gT,x4,m1',m2',m3',m4']
    have gT:((c.toNat:Int)=92)=False:=eq_false (by omega);by_cases k2:c.toNat<32\/126<c.toNat
    .rw[B7 k1 k2];refine⟨0,.inr (.inl ⟨rfl,?_⟩)⟩;by_cases k3:c.toNat<32
     .have kj:((c.toNat:Int)<32)=True:=eq_true (by omega);simp[iV,gv,cK,h1,h6,h3,n0,n2,LR,h9,tI,gT,kj]
     .have kj:((c.toNat:Int)<32)=False:=eq_false (by omega);have LP:(126<(c.toNat:Int))=True:=eq_true (by omega);simp[iV,gv,cK,h1,h6,h3,n0,n2,LR,h9,tI,gT,kj,LP]
    .have kj:((c.toNat:Int)<32)=False:=eq_false (by omega);have LP:(126<(c.toNat:Int))=False:=eq_false (by omega);rw[Px k1 k2 k4];have ih:=vg n s hl q0 f (aB++[c]) (j+1) m md (by simp;omega) (by omega) (by omega) (by omega);rw[show q0+(j+1)=q0+j+1 by omega] at ih;simp only[Int.natCast_add,cK,Int.natCast_one] at ih;simp[iV,gv,cK,h1,h6,h3,n0,n2,LR,h9,tI,gT,kj,LP,Qm,Qn];exact ih
def Bv(q0:Nat)(q:Option (List UInt8)×Nat):AV:=match q.1 with
 |some t=>if 64<t.length then .tuple [.agg (cK 0 [] 0),.int .i64 0,.int .i64 3] else .tuple [.agg (cK 2 t 0),.int .i64 (q0+q.2:Nat),.int .i64 0]
 |none=>.tuple [.agg (cK 0 [] 0),.int .i64 0,.int .i64 2]
noncomputable def GC:aX:=⟨149,λ
 |[.str s,.int .i64 i]=>if s.length<1000000000/\0<=i/\i<s.length then some (Bv i.toNat (iJ (s.length-i.toNat) (s.drop (i.toNat+1)) [] 1)) else none
 |_=>none⟩
theorem dH:GC.f=149:=(rfl)
theorem UB(s:List UInt8)(k:Nat)(hl:s.length<1000000000)(hk:k<s.length):GC.S [.str s,.int .i64 k]=some (Bv k (iJ (s.length-k) (s.drop (k+1)) [] 1)):=by simp only[GC];rw[if_pos ⟨hl,by omega,by omega⟩,Int.toNat_natCast]
theorem VQ:aY Tryz.prog GC:=λag v hv=>by
 unfold GC at hv|-;dsimp only at hv|-;split at hv
 .rename_i s i;split at hv
  .rename_i hc;cases hv;obtain⟨k,rfl⟩:∃k:Nat,i=(k:Int):=⟨i.toNat,by omega⟩
   rw[Int.toNat_natCast]
   have hr:(Bv k (iJ (s.length-k) (s.drop (k+1)) [] 1)).aK=0:=by
    unfold Bv;split
    .split<;>simp[AV.aK,AV.aw,cK]
    .simp[AV.aK,AV.aw,cK]
   refine bG (n:=s.length+5) (h':=h0) (bA (ss:=[]) (by simp)) ?_ hr (by simp[AV.aK,AV.aw]);have h3:IntKind.i64.wrap ((k:Int)+1)=(k:Int)+1:=wrap_i64 (by omega) (by omega);have lp:=vg (s.length+3) s (by omega) k (s.length-k) [] 1 (s.length+4) 0 (by simp) (by omega) (by omega) (by omega);generalize iJ (s.length-k) (s.drop (k+1)) [] 1=q at *;obtain⟨a,e⟩:=q;simp only[Hd,gv,cK,Int.natCast_add,Int.natCast_one] at lp;unfold Bv;obtain⟨md,⟨t,a1,⟨a2,a3⟩|⟨a2,a3⟩⟩|⟨a1,a3⟩|⟨a1,a3⟩⟩:=lp
   .dsimp only at a1 a3;subst a1;dsimp only;rw[if_neg (by omega)];simp[HA,Nt,gv,h3,cK,a3]
   .dsimp only at a1 a3;subst a1;dsimp only;rw[if_pos (by omega)];simp[HA,Nt,gv,h3,cK,a3]
   .dsimp only at a1 a3;subst a1;dsimp only;simp[HA,Nt,gv,h3,cK,a3]
   .dsimp only at a1 a3;subst a1;dsimp only;simp[HA,Nt,gv,h3,cK,a3]
  .cases hv
 .cases hv
noncomputable def pG:List aX:=[x5,yH,Hr,uM,x8,GC,zy,ON]
theorem ab0:∀s∈pG,aY Tryz.prog s:=by simp[pG,Ec,Cu,Sa,zC,L6,VQ,Sl,Wj]
theorem EL(n:Nat)(s:List UInt8)(hl:s.length<1000000000)(i0 c0:Int):∀(post pre:List UInt8) (m md:Nat),s=pre++post->post.length<m->
 gu 1 0 (bL (aH (aF (cY pG) (n+1)) (n+1) xW) eC 1 m (OG (.str s) (.int .i64 i0) (.ptr 0 0) (.int .u8 c0) (.int .i64 pre.length)) ⟨1,[.row (cK 0 [] 0)],1,md⟩)=
  some (.exit 1,FM 214 [(0,.str s),(1,.int .i64 i0),(4,.ptr 0 0),(7,.int .u8 c0),(8,.int .i64 (pre.length+runN jG post:Nat))],⟨1,[.row (cK 0 [] 0)],0,md⟩)
 |_,_,0,_,_,h=>by omega
 |[],pre,m+1,md,hs,_=>by rw[ak];rw[List.append_nil] at hs;subst hs;simp[pG,xW,eC,runN,cK,cB,cA,da,bO,cJ,dH,cZ,dI]
 |c::r,pre,m+1,md,hs,hm=>by
   rw[ak];have EN:pre.length+r.length+1=s.length:=by rw[hs];simp;omega
   have h1:s[pre.length]? =some c:=by rw[hs];simp
   have h3:IntKind.i64.wrap ((pre.length:Int)+1)=(pre.length:Int)+1:=wrap_i64 (by omega) (by omega);have h6:((pre.length:Int)<(s.length:Int))=True:=eq_true (by omega);have q:=R9 c;have ih:=EL n s hl i0 c0 r (pre++[c]) m md (by rw[hs];simp) (by simp at hm;omega);simp only[List.length_append,List.length_cons,List.length_nil,Nat.zero_add,Int.natCast_add,Int.natCast_one,cK,pG] at ih;unfold runN
   cases hp:jG c with
   |false=>rw[hp] at q;simp[pG,xW,eC,cK,h1,h3,h6,q,cB,cA,da,bO,cJ,dH,cZ,dI]
   |true=>rw[hp] at q;simp only[if_true];rw[show pre.length+(runN jG r+1)=pre.length+1+runN jG r by omega];simp[pG,xW,eC,cK,h1,h3,h6,q,cB,cA,da,bO,cJ,dH,cZ,dI];exact ih
theorem CE(n:Nat)(s:List UInt8)(hl:s.length<1000000000)(i0 c0:Int):∀(post pre:List UInt8) (m md:Nat),s=pre++post->post.length<m->
 gu 1 0 (bL (aH (aF (cY pG) (n+1)) (n+1) yy) eB 1 m (PZ (.str s) (.int .i64 i0) (.ptr 0 0) (.int .i64 pre.length)) ⟨1,[.row (cK 0 [] 0)],1,md⟩)=
  some (.exit 3,FM 214 [(0,.str s),(1,.int .i64 i0),(4,.ptr 0 0),(8,.int .i64 (pre.length+runN eA post:Nat))],⟨1,[.row (cK 0 [] 0)],0,md⟩)
 |_,_,0,_,_,h=>by omega
 |[],pre,m+1,md,hs,_=>by rw[ak];rw[List.append_nil] at hs;subst hs;simp[pG,yy,eB,runN,cK,cB,cA,da,bO,cJ,dH,cZ,dI]
 |c::r,pre,m+1,md,hs,hm=>by
   rw[ak];have EN:pre.length+r.length+1=s.length:=by rw[hs];simp;omega
   have h1:s[pre.length]? =some c:=by rw[hs];simp
   have h3:IntKind.i64.wrap ((pre.length:Int)+1)=(pre.length:Int)+1:=wrap_i64 (by omega) (by omega);have h6:((pre.length:Int)<(s.length:Int))=True:=eq_true (by omega);have q:=vS c;have ih:=CE n s hl i0 c0 r (pre++[c]) m md (by rw[hs];simp) (by simp at hm;omega);simp only[List.length_append,List.length_cons,List.length_nil,Nat.zero_add,Int.natCast_add,Int.natCast_one,cK,pG] at ih;unfold runN
   cases hp:eA c with
   |false=>rw[hp] at q;simp[pG,yy,eB,cK,h1,h3,h6,q,cB,cA,da,bO,cJ,dH,cZ,dI]
   |true=>rw[hp] at q;simp only[if_true];rw[show pre.length+(runN eA r+1)=pre.length+1+runN eA r by omega];simp[pG,yy,eB,cK,h1,h3,h6,q,cB,cA,da,bO,cJ,dH,cZ,dI];exact ih
theorem CT(n:Nat)(s:List UInt8)(hl:s.length<1000000000)(i0 c0:Int):∀(post pre:List UInt8) (m md:Nat),s=pre++post->post.length<m->
 gu 1 0 (bL (aH (aF (cY pG) (n+1)) (n+1) vP) ek 1 m (OF (.str s) (.int .i64 i0) (.ptr 0 0) (.int .i64 pre.length)) ⟨1,[.row (cK 0 [] 0)],1,md⟩)=
  some (.exit 5,FM 214 [(0,.str s),(1,.int .i64 i0),(4,.ptr 0 0),(8,.int .i64 (pre.length+mL post:Nat))],⟨1,[.row (cK 0 [] 0)],0,md⟩)
 |_,_,0,_,_,h=>by omega
 |[],pre,m+1,md,hs,_=>by rw[ak];rw[List.append_nil] at hs;subst hs;simp[pG,vP,ek,mL,cK,cB,cA,da,bO,cJ,dH,cZ,dI]
 |c::r,pre,m+1,md,hs,hm=>by
   rw[ak];have EN:pre.length+r.length+1=s.length:=by rw[hs];simp;omega
   have h1:s[pre.length]? =some c:=by rw[hs];simp
   have h3:IntKind.i64.wrap ((pre.length:Int)+1)=(pre.length:Int)+1:=wrap_i64 (by omega) (by omega);have h6:((pre.length:Int)<(s.length:Int))=True:=eq_true (by omega);have q:=Jr c;have ih:=CT n s hl i0 c0 r (pre++[c]) m md (by rw[hs];simp) (by simp at hm;omega);simp only[List.length_append,List.length_cons,List.length_nil,Nat.zero_add,Int.natCast_add,Int.natCast_one,cK,pG] at ih;have q2:=Fz s pre.length hl (by omega);have hd:s.drop pre.length=c::r:=by rw[hs];simp
   rw[hd] at q2;unfold mL
   cases hp:wP c with
   |false=>rw[hp] at q;simp[pG,vP,ek,cK,h1,h3,h6,q,cB,cA,da,bO,cJ,dH,cZ,dI]
   |true=>
     rw[hp] at q
     cases he:ox (c::r) with
     |true=>rw[he] at q2;simp[pG,vP,ek,cK,h1,h3,h6,q,q2,cB,cA,da,bO,cJ,dH,cZ,dI]
     |false=>rw[he] at q2;simp only[Bool.not_false,Bool.and_self,if_true];rw[show pre.length+(mL r+1)=pre.length+1+mL r by omega];simp[pG,vP,ek,cK,h1,h3,h6,q,q2,cB,cA,da,bO,cJ,dH,cZ,dI];exact ih
theorem Jj{c:UInt8}(h:jD c=true):c.toNat=40\/c.toNat=41\/c.toNat=91\/c.toNat=93\/c.toNat=123\/c.toNat=125\/c.toNat=44\/c.toNat=124:=by unfold jD at h;rw[List.any_eq_true] at h;obtain⟨d,hd1,WT⟩:=h;have e:=of_decide_eq_true WT;simp only[uu,List.mem_cons,List.not_mem_nil,or_false] at hd1;rcases hd1 with rfl|rfl|rfl|rfl|rfl|rfl|rfl|rfl<;>rw[<-e]<;>decide
theorem Rn{c:UInt8}(h:jD c=false):c.toNat≠40/\c.toNat≠41/\c.toNat≠91/\c.toNat≠93/\c.toNat≠123/\c.toNat≠125/\c.toNat≠44/\c.toNat≠124:=by
 have:∀d:UInt8,d∈uu->c.toNat≠d.toNat:=λd hd e=>by
  have:jD c=true:=by unfold jD;rw[List.any_eq_true];exact⟨d,hd,decide_eq_true e.symm⟩
  rw[this] at h;cases h
 exact⟨this 40 (by decide),this 41 (by decide),this 91 (by decide),this 93 (by decide),this 123 (by decide),this 125 (by decide),this 44 (by decide),this 124 (by decide)⟩
theorem XX{c:UInt8}(h:wP c=true):c.toNat≠59/\c.toNat≠33/\c.toNat≠40/\c.toNat≠41/\c.toNat≠91/\c.toNat≠93/\c.toNat≠123/\c.toNat≠125/\c.toNat≠44/\c.toNat≠124:=by unfold wP at h;rw[List.any_eq_true] at h;obtain⟨d,hd1,WT⟩:=h;have e:=of_decide_eq_true WT;simp only[Fj,List.mem_cons,List.not_mem_nil,or_false] at hd1;rcases hd1 with rfl|rfl|rfl|rfl|rfl|rfl|rfl|rfl|rfl|rfl|rfl|rfl|rfl|rfl|rfl|rfl|rfl<;>rw[<-e]<;>decide
def fN(k:Nat)(r:Tok×Nat×Int):AV:=
 if r.2.2≠0 then (if r.1.au=4 then .tuple [cL r.1,.int .i64 (k+r.2.1:Nat),.int .i64 r.2.2] else .tuple [cL kO,.int .i64 0,.int .i64 r.2.2])
 else if (r.1.au=1\/r.1.au=2)/\64<r.1.aD.length then .tuple [cL kO,.int .i64 0,.int .i64 3]
 else .tuple [cL r.1,.int .i64 (k+r.2.1:Nat),.int .i64 0]
theorem Mf(k:Nat)(r:Tok×Nat×Int):(fN k r).aK=0:=by
 unfold fN;split
 .split<;>simp[AV.aK,AV.aw,cL]
 .split<;>simp[AV.aK,AV.aw,cL]
noncomputable def GK:aX:=⟨110,λ
 |[.str s,.int .i64 i]=>if s.length<1000000000/\0<=i/\i<s.length then some (fN i.toNat (jg (s.drop i.toNat))) else none
 |_=>none⟩
theorem eX:GK.f=110:=(rfl)
theorem Ls(s:List UInt8)(k:Nat)(hl:s.length<1000000000)(hk:k<s.length):GK.S [.str s,.int .i64 k]=some (fN k (jg (s.drop k))):=by simp only[GK];rw[if_pos ⟨hl,by omega,by omega⟩,Int.toNat_natCast]
theorem VN(s:List UInt8)(k:Nat)(hl:s.length<1000000000)(hk:k<s.length):
 aF (cY pG) (s.length+5) 110 [.str s,.int .i64 k] h0=some (fN k (jg (s.drop k)),h0):=by
 obtain⟨c,h1,hd⟩:=gp (s:=s) (k:=k) hk;have hcb:=c.toNat_lt;have q1:=Dn c;have q2:=CU c;have q3:=vS c;have q4:=Jr c;have q5:=Fz s k hl (by omega);have h3:IntKind.i64.wrap ((k:Int)+1)=(k:Int)+1:=wrap_i64 (by omega) (by omega);have tH:IntKind.i64.wrap ((k:Int)+2)=(k:Int)+2:=wrap_i64 (by omega) (by omega);obtain⟨Qm,Qn⟩:=zX (s:=s) (X:=(k:Int)) (k:=k) rfl h1;have alq:(s.take k).length=k:=by rw[List.length_take];omega
 have hsp:s=s.take k++(s.drop k):=(List.take_append_drop k s).symm;have LZ:(c::s.drop (k+1)).length=s.length-k:=by rw[<-hd,List.length_drop]
 have l0:=λ(i0 c0:Int) (md:Nat)=>EL (s.length+3) s hl i0 c0 (s.drop k) (s.take k) (s.length+4) md hsp (by rw[List.length_drop];omega)
 have l1:=λ(i0:Int) (md:Nat)=>CE (s.length+3) s hl i0 0 (s.drop k) (s.take k) (s.length+4) md hsp (by rw[List.length_drop];omega)
 have l2:=λ(i0:Int) (md:Nat)=>CT (s.length+3) s hl i0 0 (s.drop k) (s.take k) (s.length+4) md hsp (by rw[List.length_drop];omega)
 rw[hd] at l0 l1 l2 q5|-;simp only[alq,OG,eC,PZ,eB,OF,ek,cK,pG] at l0 l1 l2
 have word:∀q:Nat,k+q<=s.length->sliceB s.length (some (.int .i64 k)) (some (.int .i64 ((k:Int)+(q:Int))))=some (k,k+q)/\(s.take (k+q)).drop k=(c::s.drop (k+1)).take q/\IntKind.i64.wrap ((k:Int)+(q:Int)-(k:Int))=(q:Int)/\((c::s.drop (k+1)).take q).length=q:=λq hq=>by obtain⟨a,b⟩:=u6 hq;rw[hd] at b;rw[Int.natCast_add] at a;refine⟨a,b,by rw[wrap_i64 (by omega) (by omega)];omega,?_⟩;rw[List.length_take,LZ];omega
 unfold jg;dsimp only
 cases k1:mG c with
 |true=>
   rw[k1] at q1
   have kg:l5 c=false:=by unfold mG at k1;unfold l5;simp only[Bool.and_eq_true,decide_eq_true_eq] at k1;simp only[Bool.or_eq_false_iff,Bool.and_eq_false_iff,decide_eq_false_iff_not];omega
   rw[kg] at q2;simp only[if_true];have hq:=kS jG (c::s.drop (k+1));rw[LZ] at hq;obtain⟨w1,w2,w3,w4⟩:=word (runN jG (c::s.drop (k+1))) (by omega);generalize runN jG (c::s.drop (k+1))=q at *;simp only[Int.natCast_add] at l0;by_cases k2:64<q
   .have IX:((64:Int)<(q:Int))=True:=eq_true (by omega)
    have e:fN k (⟨1,(c::s.drop (k+1)).take q,0,false,0⟩,q,0)=.tuple [cL kO,.int .i64 0,.int .i64 3]:=by unfold fN;rw[if_neg (by simp),if_pos ⟨.inl rfl,by rw[w4];exact k2⟩]
    rw[e];simp[pG,gM,nw,eC,eB,ek,cK,h1,q1,q2,q3,cB,cA,da,bO,cJ,dH,cZ,dI,l0,w3,IX,cL,kO]
   .have IX:((64:Int)<(q:Int))=False:=eq_false (by omega)
    have e:fN k (⟨1,(c::s.drop (k+1)).take q,0,false,0⟩,q,0)=.tuple [cL ⟨1,(c::s.drop (k+1)).take q,0,false,0⟩,.int .i64 (k+q:Nat),.int .i64 0]:=by unfold fN;rw[if_neg (by simp),if_neg (by rintro⟨_,h⟩;rw[w4] at h;omega)]
    rw[e];simp[pG,gM,nw,eC,eB,ek,cK,h1,q1,q2,q3,cB,cA,da,bO,cJ,dH,cZ,dI,l0,w1,w2,w3,IX,cL]
 |false=>
 rw[k1] at q1;simp only[Bool.false_eq_true,if_false]
 cases k2:l5 c with
 |true=>
   rw[k2] at q2;simp only[if_true];have hq:=kS jG (c::s.drop (k+1));rw[LZ] at hq;obtain⟨w1,w2,w3,w4⟩:=word (runN jG (c::s.drop (k+1))) (by omega);generalize runN jG (c::s.drop (k+1))=q at *;simp only[Int.natCast_add] at l0
   have e:fN k (⟨3,(c::s.drop (k+1)).take q,0,false,0⟩,q,0)=.tuple [cL ⟨3,(c::s.drop (k+1)).take q,0,false,0⟩,.int .i64 (k+q:Nat),.int .i64 0]:=by unfold fN;rw[if_neg (by simp),if_neg (by rintro⟨h,_⟩;rcases h with h|h<;>simp at h)]
   rw[e];simp[pG,gM,nw,eC,eB,ek,cK,h1,q1,q2,q3,cB,cA,da,bO,cJ,dH,cZ,dI,l0,w1,w2,w3,cL]
 |false=>
 rw[k2] at q2;simp only[Bool.false_eq_true,if_false]
 cases k3:eA c with
 |true=>
   rw[k3] at q3;simp only[if_true];have hq:=kS eA (c::s.drop (k+1));rw[LZ] at hq;obtain⟨w1,w2,w3,w4⟩:=word (runN eA (c::s.drop (k+1))) (by omega);generalize runN eA (c::s.drop (k+1))=q at *;have q6:=No ((c::s.drop (k+1)).take q) (by rw[w4];omega);generalize (c::s.drop (k+1)).take q=D at *;generalize jf D=P at *;obtain⟨v,e⟩:=P;simp only[Int.natCast_add] at l1;dsimp only at q6|-
   have e:fN k (⟨4,[],v,false,0⟩,q,e)=.tuple [cL ⟨4,[],v,false,0⟩,.int .i64 (k+q:Nat),.int .i64 e]:=by
    unfold fN;dsimp only;by_cases he:e=0
    .subst he;rw[if_neg (by simp),if_neg (by rintro⟨h,_⟩;rcases h with h|h<;>simp at h)]
    .rw[if_pos he,if_pos rfl]
   rw[e];simp[pG,gM,nw,eC,eB,ek,cK,h1,q1,q2,q3,cB,cA,da,bO,cJ,dH,cZ,dI,l1,w1,w2,w3,q6,cL]
 |false=>
 rw[k3] at q3;simp only[Bool.false_eq_true,if_false];by_cases k4:c.toNat=39
 .have gT:((c.toNat:Int)=39)=True:=eq_true (by omega);rw[if_pos k4];have q6:=UB s k hl hk;rw[show s.length-k=(s.drop (k+1)).length+1 by rw[List.length_drop];omega] at q6;generalize iJ ((s.drop (k+1)).length+1) (s.drop (k+1)) [] 1=Q at *;obtain⟨a,q⟩:=Q
  cases a with
  |none=>simp only[Bv,cK] at q6;simp[pG,gM,nw,eC,eB,ek,cK,h1,q1,q2,q3,cB,cA,da,bO,cJ,dH,cZ,dI,gT,q6,fN,cL,kO]
  |some t=>
    by_cases k5:64<t.length;simp only[Bv,cK,if_pos k5] at q6
    rotate_left
    simp only[Bv,cK,if_neg k5] at q6
    rotate_left
    all_goals simp[pG,gM,nw,eC,eB,ek,cK,h1,q1,q2,q3,cB,cA,da,bO,cJ,dH,cZ,dI,gT,q6,fN,cL,kO,k5]
 have gT:((c.toNat:Int)=39)=False:=eq_false (by omega);rw[if_neg k4]
 cases k5:ox (c::s.drop (k+1)) with
 |true=>rw[k5] at q5;simp only[if_true];simp[pG,gM,nw,eC,eB,ek,cK,h1,q1,q2,q3,cB,cA,da,bO,cJ,dH,cZ,dI,gT,q5,h3,fN,cL]
 |false=>
 rw[k5] at q5;simp only[Bool.false_eq_true,if_false]
 cases k6:wP c with
 |true=>
   rw[k6] at q4;simp only[if_true];obtain⟨f1,f2,f3,f4,f5,f6,f7,f8,f9,f10⟩:=XX k6;have g:∀m:Nat,c.toNat≠m->((c.toNat:Int)=(m:Int))=False:=λm h=>eq_false (by omega)
   have g1:((c.toNat:Int)=59)=False:=g 59 f1;have g2:((c.toNat:Int)=33)=False:=g 33 f2;have g3:((c.toNat:Int)=40)=False:=g 40 f3;have g4:((c.toNat:Int)=41)=False:=g 41 f4;have g5:((c.toNat:Int)=91)=False:=g 91 f5;have g6:((c.toNat:Int)=93)=False:=g 93 f6;have g7:((c.toNat:Int)=123)=False:=g 123 f7;have g8:((c.toNat:Int)=125)=False:=g 125 f8;have g9:((c.toNat:Int)=44)=False:=g 44 f9;have g10:((c.toNat:Int)=124)=False:=g 124 f10;have hq:=CI (c::s.drop (k+1));rw[LZ] at hq;obtain⟨w1,w2,w3,w4⟩:=word (mL (c::s.drop (k+1))) (by omega);generalize mL (c::s.drop (k+1))=q at *;simp only[Int.natCast_add] at l2;by_cases k2:64<q
   .have IX:((64:Int)<(q:Int))=True:=eq_true (by omega)
    have e:fN k (⟨1,(c::s.drop (k+1)).take q,0,false,0⟩,q,0)=.tuple [cL kO,.int .i64 0,.int .i64 3]:=by unfold fN;rw[if_neg (by simp),if_pos ⟨.inl rfl,by rw[w4];exact k2⟩]
    rw[e];simp[pG,gM,nw,eC,eB,ek,cK,h1,q1,q2,q3,cB,cA,da,bO,cJ,dH,cZ,dI,l2,w3,IX,cL,kO,gT,q4,q5,g1,g2,g3,g4,g5,g6,g7,g8,g9,g10]
   .have IX:((64:Int)<(q:Int))=False:=eq_false (by omega)
    have e:fN k (⟨1,(c::s.drop (k+1)).take q,0,false,0⟩,q,0)=.tuple [cL ⟨1,(c::s.drop (k+1)).take q,0,false,0⟩,.int .i64 (k+q:Nat),.int .i64 0]:=by unfold fN;rw[if_neg (by simp),if_neg (by rintro⟨_,h⟩;rw[w4] at h;omega)]
    rw[e];simp[pG,gM,nw,eC,eB,ek,cK,h1,q1,q2,q3,cB,cA,da,bO,cJ,dH,cZ,dI,l2,w1,w2,w3,IX,cL,gT,q4,q5,g1,g2,g3,g4,g5,g6,g7,g8,g9,g10]
 |false=>
 rw[k6] at q4;simp only[Bool.false_eq_true,if_false];by_cases k7:c.toNat=59\/c.toNat=33
 .rw[if_pos k7];by_cases k8:c.toNat=59
  .have BE:((c.toNat:Int)=59)=True:=eq_true (by omega);simp[pG,gM,nw,eC,eB,ek,cK,h1,q1,q2,q3,cB,cA,da,bO,cJ,dH,cZ,dI,h3,gT,BE,q5,Qm,Qn,fN,cL]
  .have BE:((c.toNat:Int)=59)=False:=eq_false (by omega);have E0:((c.toNat:Int)=33)=True:=eq_true (by omega);simp[pG,gM,nw,eC,eB,ek,cK,h1,q1,q2,q3,cB,cA,da,bO,cJ,dH,cZ,dI,h3,gT,BE,E0,q5,Qm,Qn,fN,cL]
 rw[if_neg k7];have BE:((c.toNat:Int)=59)=False:=eq_false (by omega);have E0:((c.toNat:Int)=33)=False:=eq_false (by omega)
 have ni:(s.drop (k+1)=[]/\((k:Int)+1<(s.length:Int))=False)\/∃d,s[k+1]? =some d/\s.drop (k+1)=d::s.drop (k+2)/\((k:Int)+1<(s.length:Int))=True/\k+2<=s.length:=by
  by_cases hx:k+1<s.length
  .obtain⟨d,a1,a2⟩:=gp (s:=s) (k:=k+1) hx;exact .inr ⟨d,a1,a2,eq_true (by omega),by omega⟩
  .exact .inl ⟨List.drop_eq_nil_of_le (by omega),eq_false (by omega)⟩
 have n1:(0<=(k:Int)+1)=True:=eq_true (by omega);have n2:((k:Int)+1).toNat=k+1:=by omega
 -- punctuation,or nothing,when no pair is there
 have fin:∀(A B:Prop),((c.toNat:Int)=91)=A->((c.toNat:Int)=123)=B->
  (∀(W:Int),(((c.toNat:Int)=91/\W=93)\/((c.toNat:Int)=123/\W=125))->IntKind.u8.wrap ((c.toNat:Int)+2)=W/\(((k:Int)+1<(s.length:Int))=False\/∃d:UInt8,s[k+1]? =some d/\((k:Int)+1<(s.length:Int))=True/\((d.toNat:Int)=W)=False))->
  aF (cY pG) (s.length+5) 110 [.str s,.int .i64 k] h0=some (if jD c then .tuple [cL ⟨5,[c],0,false,0⟩,.int .i64 (k+1:Nat),.int .i64 0] else .tuple [cL kO,.int .i64 0,.int .i64 2],h0):=λA B hA hB hW=>by
  cases hp:jD c with
  |true=>
    rw[if_pos rfl];rcases Jj hp with e|e|e|e|e|e|e|e
    .have LS:((c.toNat:Int)=91)=False:=eq_false (by omega);have zl:((c.toNat:Int)=123)=False:=eq_false (by omega);have LU:((c.toNat:Int)=40)=True:=eq_true (by omega);simp[pG,gM,nw,eC,eB,ek,cK,h1,q1,q2,q3,cB,cA,da,bO,cJ,dH,cZ,dI,h3,gT,BE,E0,q4,q5,Qm,Qn,LS,zl,LU,cL]
    .have LU:((c.toNat:Int)=40)=False:=eq_false (by omega);have LS:((c.toNat:Int)=91)=False:=eq_false (by omega);have zl:((c.toNat:Int)=123)=False:=eq_false (by omega);have Ou:((c.toNat:Int)=41)=True:=eq_true (by omega);simp[pG,gM,nw,eC,eB,ek,cK,h1,q1,q2,q3,cB,cA,da,bO,cJ,dH,cZ,dI,h3,gT,BE,E0,q4,q5,Qm,Qn,LU,LS,zl,Ou,cL]
    .have LU:((c.toNat:Int)=40)=False:=eq_false (by omega);have Ou:((c.toNat:Int)=41)=False:=eq_false (by omega);have LS:((c.toNat:Int)=91)=True:=eq_true (by omega);obtain⟨hw,hx⟩:=hW 93 (.inl ⟨by omega,rfl⟩);rcases hx with x2|⟨d,x0,x2,x3⟩
     .simp[pG,gM,nw,eC,eB,ek,cK,h1,q1,q2,q3,cB,cA,da,bO,cJ,dH,cZ,dI,h3,gT,BE,E0,q4,q5,Qm,Qn,LU,Ou,LS,hw,x2,cL]
     .simp[pG,gM,nw,eC,eB,ek,cK,h1,q1,q2,q3,cB,cA,da,bO,cJ,dH,cZ,dI,h3,gT,BE,E0,q4,q5,Qm,Qn,LU,Ou,LS,hw,x0,x2,x3,n1,n2,cL]
    .have LU:((c.toNat:Int)=40)=False:=eq_false (by omega);have Ou:((c.toNat:Int)=41)=False:=eq_false (by omega);have LS:((c.toNat:Int)=91)=False:=eq_false (by omega);have zl:((c.toNat:Int)=123)=False:=eq_false (by omega);have Xt:((c.toNat:Int)=93)=True:=eq_true (by omega);simp[pG,gM,nw,eC,eB,ek,cK,h1,q1,q2,q3,cB,cA,da,bO,cJ,dH,cZ,dI,h3,gT,BE,E0,q4,q5,Qm,Qn,LU,Ou,LS,zl,Xt,cL]
    .have LU:((c.toNat:Int)=40)=False:=eq_false (by omega);have Ou:((c.toNat:Int)=41)=False:=eq_false (by omega);have LS:((c.toNat:Int)=91)=False:=eq_false (by omega);have Xt:((c.toNat:Int)=93)=False:=eq_false (by omega);have zl:((c.toNat:Int)=123)=True:=eq_true (by omega);obtain⟨hw,hx⟩:=hW 125 (.inr ⟨by omega,rfl⟩);rcases hx with x2|⟨d,x0,x2,x3⟩
     .simp[pG,gM,nw,eC,eB,ek,cK,h1,q1,q2,q3,cB,cA,da,bO,cJ,dH,cZ,dI,h3,gT,BE,E0,q4,q5,Qm,Qn,LU,Ou,LS,Xt,zl,hw,x2,cL]
     .simp[pG,gM,nw,eC,eB,ek,cK,h1,q1,q2,q3,cB,cA,da,bO,cJ,dH,cZ,dI,h3,gT,BE,E0,q4,q5,Qm,Qn,LU,Ou,LS,Xt,zl,hw,x0,x2,x3,n1,n2,cL]
    .have LU:((c.toNat:Int)=40)=False:=eq_false (by omega);have Ou:((c.toNat:Int)=41)=False:=eq_false (by omega);have LS:((c.toNat:Int)=91)=False:=eq_false (by omega);have Xt:((c.toNat:Int)=93)=False:=eq_false (by omega);have zl:((c.toNat:Int)=123)=False:=eq_false (by omega);have Xb:((c.toNat:Int)=125)=True:=eq_true (by omega);simp[pG,gM,nw,eC,eB,ek,cK,h1,q1,q2,q3,cB,cA,da,bO,cJ,dH,cZ,dI,h3,gT,BE,E0,q4,q5,Qm,Qn,LU,Ou,LS,Xt,zl,Xb,cL]
    .have LU:((c.toNat:Int)=40)=False:=eq_false (by omega);have Ou:((c.toNat:Int)=41)=False:=eq_false (by omega);have LS:((c.toNat:Int)=91)=False:=eq_false (by omega);have Xt:((c.toNat:Int)=93)=False:=eq_false (by omega);have zl:((c.toNat:Int)=123)=False:=eq_false (by omega);have Xb:((c.toNat:Int)=125)=False:=eq_false (by omega);have g44:((c.toNat:Int)=44)=True:=eq_true (by omega);simp[pG,gM,nw,eC,eB,ek,cK,h1,q1,q2,q3,cB,cA,da,bO,cJ,dH,cZ,dI,h3,gT,BE,E0,q4,q5,Qm,Qn,LU,Ou,LS,Xt,zl,Xb,g44,cL]
    .have LU:((c.toNat:Int)=40)=False:=eq_false (by omega);have Ou:((c.toNat:Int)=41)=False:=eq_false (by omega);have g44:((c.toNat:Int)=44)=False:=eq_false (by omega);have LS:((c.toNat:Int)=91)=False:=eq_false (by omega);have Xt:((c.toNat:Int)=93)=False:=eq_false (by omega);have zl:((c.toNat:Int)=123)=False:=eq_false (by omega);have Xb:((c.toNat:Int)=125)=False:=eq_false (by omega);have als:((c.toNat:Int)=124)=True:=eq_true (by omega);simp[pG,gM,nw,eC,eB,ek,cK,h1,q1,q2,q3,cB,cA,da,bO,cJ,dH,cZ,dI,h3,gT,BE,E0,q4,q5,Qm,Qn,LU,Ou,g44,LS,Xt,zl,Xb,als,cL]
  |false=>
    rw[if_neg (by simp)];obtain⟨f3,f4,f5,f6,f7,f8,f9,f10⟩:=Rn hp;have g:∀m:Nat,c.toNat≠m->((c.toNat:Int)=(m:Int))=False:=λm h=>eq_false (by omega)
    have g3:((c.toNat:Int)=40)=False:=g 40 f3;have g4:((c.toNat:Int)=41)=False:=g 41 f4;have g5:((c.toNat:Int)=91)=False:=g 91 f5;have g6:((c.toNat:Int)=93)=False:=g 93 f6;have g7:((c.toNat:Int)=123)=False:=g 123 f7;have g8:((c.toNat:Int)=125)=False:=g 125 f8;have g9:((c.toNat:Int)=44)=False:=g 44 f9;have g10:((c.toNat:Int)=124)=False:=g 124 f10;simp[pG,gM,nw,eC,eB,ek,cK,h1,q1,q2,q3,cB,cA,da,bO,cJ,dH,cZ,dI,h3,gT,BE,E0,q4,q5,g3,g4,g5,g6,g7,g8,g9,g10,cL,kO]
 have ahO:fN k (⟨5,[c],0,false,0⟩,1,0)=.tuple [cL ⟨5,[c],0,false,0⟩,.int .i64 (k+1:Nat),.int .i64 0]:=by unfold fN;rw[if_neg (by simp),if_neg (by rintro⟨h,_⟩;rcases h with h|h<;>simp at h)]
 have ahP:fN k (kO,0,2)=.tuple [cL kO,.int .i64 0,.int .i64 2]:=by unfold fN;rw[if_pos (by simp),if_neg (by simp[kO])]
 rcases ni with⟨x1,x2⟩|⟨d,x0,x1,x2,x3⟩
 .rw[x1];dsimp only
  have:=fin _ _ rfl rfl (λW hW=>by refine⟨?_,.inl x2⟩;rcases hW with⟨e,rfl⟩|⟨e,rfl⟩<;>rw[e]<;>rfl)
  rw[this];cases jD c
  .rw[if_neg (by simp),if_neg (by simp),ahP]
  .rw[if_pos rfl,if_pos rfl,ahO]
 .rw[x1];dsimp only;by_cases kk:(c.toNat=91/\d.toNat=93)\/(c.toNat=123/\d.toNat=125)
  .rw[if_pos kk];obtain⟨w1,w2,w3,w4⟩:=word 2 x3;have e3:(c::s.drop (k+1)).take 2=[c,d]:=by rw[x1];rfl
   rw[e3] at w2;rw[show ((2:Nat):Int)=2 from rfl] at w1
   have e:fN k (⟨1,[c,d],0,false,0⟩,2,0)=.tuple [cL ⟨1,[c,d],0,false,0⟩,.int .i64 (k+2:Nat),.int .i64 0]:=by unfold fN;rw[if_neg (by simp),if_neg (by rintro⟨_,h⟩;simp at h)]
   rw[e];rcases kk with⟨j1,j2⟩|⟨j1,j2⟩
   .have g5:((c.toNat:Int)=91)=True:=eq_true (by omega);have g6:((d.toNat:Int)=93)=True:=eq_true (by omega);have hw:IntKind.u8.wrap ((c.toNat:Int)+2)=93:=by rw[j1];rfl
    simp[pG,gM,nw,eC,eB,ek,cK,h1,q1,q2,q3,cB,cA,da,bO,cJ,dH,cZ,dI,h3,tH,gT,BE,E0,q4,q5,g5,g6,hw,x0,x2,n1,n2,w1,w2,cL]
   .have g5:((c.toNat:Int)=91)=False:=eq_false (by omega);have g7:((c.toNat:Int)=123)=True:=eq_true (by omega);have g6:((d.toNat:Int)=125)=True:=eq_true (by omega);have hw:IntKind.u8.wrap ((c.toNat:Int)+2)=125:=by rw[j1];rfl
    simp[pG,gM,nw,eC,eB,ek,cK,h1,q1,q2,q3,cB,cA,da,bO,cJ,dH,cZ,dI,h3,tH,gT,BE,E0,q4,q5,g5,g7,g6,hw,x0,x2,n1,n2,w1,w2,cL]
  .rw[if_neg kk]
   have:=fin _ _ rfl rfl (λW hW=>by
    rcases hW with⟨e,rfl⟩|⟨e,rfl⟩
    .exact⟨by rw[e];rfl,.inr ⟨d,x0,x2,eq_false (by omega)⟩⟩
    .exact⟨by rw[e];rfl,.inr ⟨d,x0,x2,eq_false (by omega)⟩⟩)
   rw[this];cases jD c
   .rw[if_neg (by simp),if_neg (by simp),ahP]
   .rw[if_pos rfl,if_pos rfl,ahO]
theorem TZ:aY Tryz.prog GK:=λag v hv=>by
 unfold GK at hv|-;dsimp only at hv|-;split at hv
 .rename_i s i;split at hv
  .rename_i hc;cases hv;obtain⟨k,rfl⟩:∃k:Nat,i=(k:Int):=⟨i.toNat,by omega⟩
   rw[Int.toNat_natCast];exact bG (bA ab0) (VN s k hc.1 (by omega)) (Mf _ _) (by simp[AV.aK,AV.aw])
  .cases hv
 .cases hv
theorem xt:∀(a b:Nat) (l:List UInt8),l.length<a->l.length<b->dE a l=dE b l
 |0,b,l,h,_=>by omega
 |a+1,0,l,_,h=>by omega
 |a+1,b+1,[],_,_=>rfl
 |a+1,b+1,c::r,ha,hb=>by
   simp only[List.length_cons] at ha hb;unfold dE;split
   .rw[xt a b r (by omega) (by omega)]
   .split
    .rename_i Qk
     have hn:gU c=true:=by unfold gU;rw[decide_eq_false (by omega)];rfl
     have hp:1<=runN gU (c::r):=pz hn;have hr:((c::r).drop (runN gU (c::r))).length<r.length+1:=by rw[List.length_drop,List.length_cons];omega
     rw[xt a b _ (by omega) (by omega)]
    .rfl
theorem u9(l:List UInt8)(a b:Nat)(ha:l.length<a)(hb:l.length<b):dE a l=dE b l:=xt a b l ha hb
noncomputable def oU:List aX:=[yg,GK]
theorem acf:∀s∈oU,aY Tryz.prog s:=by simp[oU,D9,TZ]
def OE(r:List Tok×Int×Int)(s:List UInt8)(R:Option (Ex×List AV×ai)):Prop:=
 ∃cq,(r.2.2=0/\r.2.1=s.length/\R=some (.exit 0,FM 75 [(0,.str s),(5,vK 0 r.1)],⟨(hK r.1 []).length,hK r.1 [],0,cq⟩))\/
   (r.2.2≠0/\r.1=[]/\R=some (.ret,FM 75 [(2,.aJ),(3,.int .i64 r.2.1),(4,.int .i64 r.2.2)],⟨0,[],0,cq⟩))
theorem Pj(n:Nat)(s:List UInt8)(hl:s.length<1000000000)(aB:List Tok)(hf:AV.aw (dO aB)=0):∀(post pre:List UInt8) (m md:Nat),s=pre++post->post.length<m->
 gu 1 0 (bL (aH (aF (cY oU) (n+1)) (n+1) rV) fO 1 m (IG (.str s) (.vec 0 0 aB.length 5 aB.length) (.int .i64 pre.length)) ⟨1,[.row (dO aB)],1,md⟩)=
  some (.exit 2,FM 75 [(0,.str s),(5,.vec 0 0 aB.length 5 aB.length),(6,.int .i64 (pre.length+runN gU post:Nat))],⟨1,[.row (dO aB)],0,md⟩)
 |_,_,0,_,_,h=>by omega
 |[],pre,m+1,md,hs,_=>by rw[ak];rw[List.append_nil] at hs;subst hs;simp[oU,rV,fO,runN,cQ,eX]
 |c::r,pre,m+1,md,hs,hm=>by
   rw[ak];have EN:pre.length+r.length+1=s.length:=by rw[hs];simp;omega
   have h1:s[pre.length]? =some c:=by rw[hs];simp
   have h3:IntKind.i64.wrap ((pre.length:Int)+1)=(pre.length:Int)+1:=wrap_i64 (by omega) (by omega);have h6:((pre.length:Int)<(s.length:Int))=True:=eq_true (by omega);have ih:=Pj n s hl aB hf r (pre++[c]) m md (by rw[hs];simp) (by simp at hm;omega);simp only[List.length_append,List.length_cons,List.length_nil,Nat.zero_add,Int.natCast_add,Int.natCast_one,oU] at ih;unfold runN;by_cases h:c.toNat=10
   .have h':((c.toNat:Int)=10)=True:=eq_true (by omega);rw[if_neg (by unfold gU;simp[h])];simp[oU,rV,fO,h1,h3,h6,h',hf,cQ,eX]
   .have h':((c.toNat:Int)=10)=False:=eq_false (by omega);rw[if_pos (by unfold gU;simp[h])];rw[show pre.length+(runN gU r+1)=pre.length+1+runN gU r by omega];simp[oU,rV,fO,h1,h3,h6,h',hf,cQ,eX];exact ih
theorem OO(n:Nat)(s:List UInt8)(hl:s.length<1000000000):∀(post pre:List UInt8) (m md:Nat),s=pre++post->post.length<m->
 gu 0 0 (bL (aH (aF (cY oU) (n+1)) (n+1) rV) fO 0 m (IG (.str s) (.aJ) (.int .i64 pre.length)) ⟨0,[],0,md⟩)=
  some (.exit 2,FM 75 [(0,.str s),(5,.aJ),(6,.int .i64 (pre.length+runN gU post:Nat))],⟨0,[],0,md⟩)
 |_,_,0,_,_,h=>by omega
 |[],pre,m+1,md,hs,_=>by rw[ak];rw[List.append_nil] at hs;subst hs;simp[oU,rV,fO,runN,cQ,eX]
 |c::r,pre,m+1,md,hs,hm=>by
   rw[ak];have EN:pre.length+r.length+1=s.length:=by rw[hs];simp;omega
   have h1:s[pre.length]? =some c:=by rw[hs];simp
   have h3:IntKind.i64.wrap ((pre.length:Int)+1)=(pre.length:Int)+1:=wrap_i64 (by omega) (by omega);have h6:((pre.length:Int)<(s.length:Int))=True:=eq_true (by omega);have ih:=OO n s hl r (pre++[c]) m md (by rw[hs];simp) (by simp at hm;omega);simp only[List.length_append,List.length_cons,List.length_nil,Nat.zero_add,Int.natCast_add,Int.natCast_one,oU] at ih;unfold runN;by_cases h:c.toNat=10
   .have h':((c.toNat:Int)=10)=True:=eq_true (by omega);rw[if_neg (by unfold gU;simp[h])];simp[oU,rV,fO,h1,h3,h6,h',cQ,eX]
   .have h':((c.toNat:Int)=10)=False:=eq_false (by omega);rw[if_pos (by unfold gU;simp[h])];rw[show pre.length+(runN gU r+1)=pre.length+1+runN gU r by omega];simp[oU,rV,fO,h1,h3,h6,h',cQ,eX];exact ih
theorem yo(n:Nat)(s:List UInt8)(hl:s.length<=4096)(hn:s.length<n):∀(m f:Nat) (aB:List Tok) (j md:Nat),aB≠[]->aB.length<=1024->j<=s.length->s.length-j<f->s.length-j<m->
 OE (qK f s (j+dE (s.length+1) (s.drop j)) aB) s (gu 0 0 (bL (aH (aF (cY oU) (n+1)) (n+1) iq) gy 0 m (EA (.str s) (.vec 0 0 aB.length 5 aB.length) (.int .i64 j)) ⟨1,[.row (dO aB)],0,md⟩))
 |0,f,aB,j,md,fy,hac,hk,hf0,hm=>by omega
 |m+1,f,aB,j,md,fy,hac,hk,hf0,hm=>by
   rw[ak];have hf:=nC aB;have h8:(aB.length+1)*48<=140737488355328:=by omega
   have h9:aB.length+1<9223372036854775808:=by omega
   have gG:(dO aB).take (aB.length*5)=dO aB:=by rw[List.take_of_length_le];rw[o4];exact Nat.le_refl _
   have iH:=o4 aB;by_cases he:j=s.length
   .have h6:((j:Int)<(s.length:Int))=False:=eq_false (by omega);have hd:s.drop j=[]:=by rw[he];exact List.drop_length
    rw[hd,show dE (s.length+1) []=0 from rfl,Nat.add_zero];obtain⟨f,rfl⟩:∃f',f=f'+1:=⟨f-1,by omega⟩
    unfold qK;rw[if_pos (by omega)];refine⟨md,.inl ⟨rfl,rfl,?_⟩⟩;rw[aaI fy,aaw fy];simp[oU,iq,gy,fO,cL,hf,h8,h9,gG,iH,aT,cQ,eX,h6,he]
   .have G3:j<s.length:=by omega
    have h6:((j:Int)<(s.length:Int))=True:=eq_true (by omega);obtain⟨c,h1,hd⟩:=gp (s:=s) (k:=j) G3;have h3:IntKind.i64.wrap ((j:Int)+1)=(j:Int)+1:=wrap_i64 (by omega) (by omega);have qb:=xf c;by_cases hb:kB c=true
    .rw[hb] at qb
     have e:dE (s.length+1) (s.drop j)=dE (s.length+1) (s.drop (j+1))+1:=by
      rw[hd];conv=>lhs;unfold dE
      rw[if_pos hb,u9 (s.drop (j+1)) s.length (s.length+1) (by rw[List.length_drop];omega) (by rw[List.length_drop];omega)]
     have ih:=yo n s hl hn m f aB (j+1) md fy hac (by omega) (by omega) (by omega);rw[e,show j+(dE (s.length+1) (s.drop (j+1))+1)=j+1+dE (s.length+1) (s.drop (j+1)) by omega];simp only[Int.natCast_add,Int.natCast_one,oU] at ih;simp[oU,iq,gy,fO,cL,hf,h8,h9,gG,iH,aT,cQ,eX,h1,h3,h6,qb];exact ih
    have BQ:kB c=false:=by simpa using hb
    rw[BQ] at qb;by_cases Qk:c.toNat=37
    .have wo:((c.toNat:Int)=37)=True:=eq_true (by omega);have hr:=kS gU (s.drop j);rw[List.length_drop] at hr;have mw:1<=runN gU (s.drop j):=by rw[hd];exact pz (by unfold gU;simp[Qk])
     have e:dE (s.length+1) (s.drop j)=runN gU (s.drop j)+dE (s.length+1) (s.drop (j+runN gU (s.drop j))):=by
      rw[hd];conv=>lhs;unfold dE
      rw[if_neg hb,if_pos Qk,<-hd,List.drop_drop,u9 (s.drop (j+runN gU (s.drop j))) s.length (s.length+1) (by rw[List.length_drop];omega) (by rw[List.length_drop];omega)]
     have ih:=yo n s hl hn m f aB (j+runN gU (s.drop j)) md fy hac (by omega) (by omega) (by omega);have lp:=λmd=>Pj n s (by omega) aB hf (s.drop j) (s.take j) (n+1) md (List.take_append_drop j s).symm (by rw[List.length_drop];omega)
     rw[e,<-Nat.add_assoc];rw[show (s.take j).length=j by rw[List.length_take];omega] at lp;generalize runN gU (s.drop j)=q at *;simp only[Int.natCast_add,oU,IG,fO] at ih lp;simp[oU,iq,gy,fO,cL,hf,h8,h9,gG,iH,aT,cQ,eX,h1,h3,h6,qb,wo,lp];exact ih
    have wo:((c.toNat:Int)=37)=False:=eq_false (by omega)
    have e0:dE (s.length+1) (s.drop j)=0:=by rw[hd];unfold dE;rw[if_neg hb,if_neg Qk]
    rw[e0,Nat.add_zero];obtain⟨f,rfl⟩:∃f',f=f'+1:=⟨f-1,by omega⟩
    unfold qK;rw[if_neg (by omega)];have q1:=Ls s j (by omega) G3;obtain⟨b1,b2⟩:=rJ (s.drop j);rw[List.length_drop] at b1;generalize jg (s.drop j)=O at *;obtain⟨⟨kd,tx,nm,op,a0⟩,k,e⟩:=O;dsimp only at b1 b2|-;by_cases e1:e=0
    .subst e1;rw[if_neg (by simp)];have hk1:=b2 rfl;by_cases zm:(kd=1\/kd=2)/\64<tx.length
     .rw[if_pos (.inl zm)]
      have q2:fN j (⟨kd,tx,nm,op,a0⟩,k,0)=.tuple [cL kO,.int .i64 0,.int .i64 3]:=by unfold fN;rw[if_neg (by simp),if_pos zm]
      rw[q2] at q1;simp only[cL,kO] at q1;refine⟨min md 1,.inr ⟨by simp,rfl,?_⟩⟩;simp[oU,iq,gy,fO,cL,hf,h8,h9,gG,iH,aT,cQ,eX,h1,h3,h6,qb,wo,q1]
     .have q2:fN j (⟨kd,tx,nm,op,a0⟩,k,0)=.tuple [cL ⟨kd,tx,nm,op,a0⟩,.int .i64 (j+k:Nat),.int .i64 0]:=by
       unfold fN;rw[if_neg (by simp),if_neg zm]
      rw[q2] at q1;simp only[cL,Int.natCast_add] at q1;by_cases Ha:(aB:List Tok).length=1024
      .rw[if_pos (.inr Ha)];have gT:((1024:Int)<=(aB.length:Int))=True:=eq_true (by omega);refine⟨min md 1,.inr ⟨by simp,rfl,?_⟩⟩;simp[oU,iq,gy,fO,cL,hf,h8,h9,gG,iH,aT,cQ,eX,h1,h3,h6,qb,wo,q1,gT]
      .rw[if_neg (by rintro (h|h);exact zm h;exact Ha h)];have n0:(0<=(j:Int)+(k:Int))=True:=eq_true (by omega);have n2:((j:Int)+(k:Int)).toNat=j+k:=by omega
       have gT:((1024:Int)<=(aB.length:Int))=False:=eq_false (by omega)
       have key:∀(b:Bool) (md:Nat),decide ((s[j+k]?.map UInt8.toNat)=some 40)=b->(∀(R:Option (Ex×List AV×ai)),R=gu 0 0 (bL (aH (aF (cY oU) (n+1)) (n+1) iq) gy 0 m (EA (.str s) (.vec 0 0 (aB++[(⟨kd,tx,nm,b,j⟩:Tok)]).length 5 (aB++[(⟨kd,tx,nm,b,j⟩:Tok)]).length) (.int .i64 (j+k:Nat))) ⟨1,[.row (dO (aB++[(⟨kd,tx,nm,b,j⟩:Tok)]))],0,md⟩)->
        OE (qK f s (j+k+dE (s.length+1) (s.drop (j+k))) (aB++[(⟨kd,tx,nm,decide ((s[j+k]?.map UInt8.toNat)=some 40),j⟩:Tok)])) s R):=λb md hb R hR=>by
        rw[hR,hb];exact yo n s hl hn m f (aB++[⟨kd,tx,nm,b,j⟩]) (j+k) md (by simp) (by simp<;>omega) (by omega) (by omega) (by omega)
       have xI:∀b:Bool,dO (aB++[(⟨kd,tx,nm,b,j⟩:Tok)])=dO aB++[.int .i64 kd,.str tx,.int .i64 nm,.bool b,.int .i64 j]:=λb=>sR _ _
       have gr:∀b:Bool,AV.aw (dO aB++[.int .i64 kd,.str tx,.int .i64 nm,.bool b,.int .i64 j])=0:=λb=>by rw[<-xI];exact nC _
       have Oq:(s[j+k]? =none/\((j:Int)+(k:Int)<(s.length:Int))=False)\/∃d,s[j+k]? =some d/\((j:Int)+(k:Int)<(s.length:Int))=True:=by
        by_cases hx:j+k<s.length
        .exact .inr ⟨s[j+k],List.getElem?_eq_getElem hx,eq_true (by omega)⟩
        .exact .inl ⟨List.getElem?_eq_none (by omega),eq_false (by omega)⟩
       rcases Oq with⟨x1,x2⟩|⟨d,x1,x2⟩
       .refine key false 0 (by simp[x1]) _ ?_;simp only[xI,List.length_append,List.length_cons,List.length_nil,Nat.zero_add,Int.natCast_add,oU];simp[oU,iq,gy,fO,cL,hf,h8,h9,gG,iH,aT,cQ,eX,h1,h3,h6,qb,wo,q1,n0,n2,gT,gr,x2]
       .by_cases IZ:d.toNat=40;have pH:((d.toNat:Int)=40)=True:=eq_true (by omega);refine key true 0 (by simp[x1,IZ]) _ ?_
        rotate_left
        have pH:((d.toNat:Int)=40)=False:=eq_false (by omega);refine key false 0 (by simp[x1,IZ]) _ ?_
        rotate_left
        all_goals
         simp only[xI,List.length_append,List.length_cons,List.length_nil,Nat.zero_add,Int.natCast_add,oU];simp[oU,iq,gy,fO,cL,hf,h8,h9,gG,iH,aT,cQ,eX,h1,h3,h6,qb,wo,q1,n0,n2,gT,gr,x1,x2,pH]
    .rw[if_pos e1];refine⟨min md 1,.inr ⟨e1,rfl,?_⟩⟩;unfold fN at q1;rw[if_pos e1] at q1;by_cases kd4:kd=4;rw[if_pos kd4] at q1;simp only[cL,Int.natCast_add] at q1
     rotate_left
     rw[if_neg kd4] at q1;simp only[cL,kO] at q1
     rotate_left
     all_goals simp[oU,iq,gy,fO,cL,hf,h8,h9,gG,iH,aT,cQ,eX,h1,h3,h6,qb,wo,q1,e1]
theorem zE(n:Nat)(s:List UInt8)(hl:s.length<=4096)(hn:s.length<n):∀(m f:Nat) (j md:Nat),j<=s.length->s.length-j<f->s.length-j<m->
 OE (qK f s (j+dE (s.length+1) (s.drop j)) []) s (gu 0 0 (bL (aH (aF (cY oU) (n+1)) (n+1) iq) gy 0 m (EA (.str s) .aJ (.int .i64 j)) ⟨0,[],0,md⟩))
 |0,f,j,md,hk,hf0,hm=>by omega
 |m+1,f,j,md,hk,hf0,hm=>by
   rw[ak];by_cases he:j=s.length
   .have h6:((j:Int)<(s.length:Int))=False:=eq_false (by omega);have hd:s.drop j=[]:=by rw[he];exact List.drop_length
    rw[hd,show dE (s.length+1) []=0 from rfl,Nat.add_zero];obtain⟨f,rfl⟩:∃f',f=f'+1:=⟨f-1,by omega⟩
    unfold qK;rw[if_pos (by omega)];refine⟨md,.inl ⟨rfl,rfl,?_⟩⟩;unfold vK hK;simp[oU,iq,gy,fO,cL,aT,cQ,eX,h6,he]
   .have G3:j<s.length:=by omega
    have h6:((j:Int)<(s.length:Int))=True:=eq_true (by omega);obtain⟨c,h1,hd⟩:=gp (s:=s) (k:=j) G3;have h3:IntKind.i64.wrap ((j:Int)+1)=(j:Int)+1:=wrap_i64 (by omega) (by omega);have qb:=xf c;by_cases hb:kB c=true
    .rw[hb] at qb
     have e:dE (s.length+1) (s.drop j)=dE (s.length+1) (s.drop (j+1))+1:=by
      rw[hd];conv=>lhs;unfold dE
      rw[if_pos hb,u9 (s.drop (j+1)) s.length (s.length+1) (by rw[List.length_drop];omega) (by rw[List.length_drop];omega)]
     have ih:=zE n s hl hn m f (j+1) md (by omega) (by omega) (by omega);rw[e,show j+(dE (s.length+1) (s.drop (j+1))+1)=j+1+dE (s.length+1) (s.drop (j+1)) by omega];simp only[Int.natCast_add,Int.natCast_one,oU] at ih;simp[oU,iq,gy,fO,cL,aT,cQ,eX,h1,h3,h6,qb];exact ih
    have BQ:kB c=false:=by simpa using hb
    rw[BQ] at qb;by_cases Qk:c.toNat=37
    .have wo:((c.toNat:Int)=37)=True:=eq_true (by omega);have hr:=kS gU (s.drop j);rw[List.length_drop] at hr;have mw:1<=runN gU (s.drop j):=by rw[hd];exact pz (by unfold gU;simp[Qk])
     have e:dE (s.length+1) (s.drop j)=runN gU (s.drop j)+dE (s.length+1) (s.drop (j+runN gU (s.drop j))):=by
      rw[hd];conv=>lhs;unfold dE
      rw[if_neg hb,if_pos Qk,<-hd,List.drop_drop,u9 (s.drop (j+runN gU (s.drop j))) s.length (s.length+1) (by rw[List.length_drop];omega) (by rw[List.length_drop];omega)]
     have ih:=zE n s hl hn m f (j+runN gU (s.drop j)) md (by omega) (by omega) (by omega);have lp:=λmd=>OO n s (by omega) (s.drop j) (s.take j) (n+1) md (List.take_append_drop j s).symm (by rw[List.length_drop];omega)
     rw[e,<-Nat.add_assoc];rw[show (s.take j).length=j by rw[List.length_take];omega] at lp;generalize runN gU (s.drop j)=q at *;simp only[Int.natCast_add,oU,IG,fO] at ih lp;simp[oU,iq,gy,fO,cL,aT,cQ,eX,h1,h3,h6,qb,wo,lp];exact ih
    have wo:((c.toNat:Int)=37)=False:=eq_false (by omega)
    have e0:dE (s.length+1) (s.drop j)=0:=by rw[hd];unfold dE;rw[if_neg hb,if_neg Qk]
    rw[e0,Nat.add_zero];obtain⟨f,rfl⟩:∃f',f=f'+1:=⟨f-1,by omega⟩
    unfold qK;rw[if_neg (by omega)];have q1:=Ls s j (by omega) G3;obtain⟨b1,b2⟩:=rJ (s.drop j);rw[List.length_drop] at b1;generalize jg (s.drop j)=O at *;obtain⟨⟨kd,tx,nm,op,a0⟩,k,e⟩:=O;dsimp only at b1 b2|-;by_cases e1:e=0
    .subst e1;rw[if_neg (by simp)];have hk1:=b2 rfl;by_cases zm:(kd=1\/kd=2)/\64<tx.length
     .rw[if_pos (.inl zm)]
      have q2:fN j (⟨kd,tx,nm,op,a0⟩,k,0)=.tuple [cL kO,.int .i64 0,.int .i64 3]:=by unfold fN;rw[if_neg (by simp),if_pos zm]
      rw[q2] at q1;simp only[cL,kO] at q1;refine⟨0,.inr ⟨by simp,rfl,?_⟩⟩;simp[oU,iq,gy,fO,cL,aT,cQ,eX,h1,h3,h6,qb,wo,q1]
     .have q2:fN j (⟨kd,tx,nm,op,a0⟩,k,0)=.tuple [cL ⟨kd,tx,nm,op,a0⟩,.int .i64 (j+k:Nat),.int .i64 0]:=by
       unfold fN;rw[if_neg (by simp),if_neg zm]
      rw[q2] at q1;simp only[cL,Int.natCast_add] at q1;by_cases Ha:([]:List Tok).length=1024
      .rw[if_pos (.inr Ha)];exact absurd Ha (by simp)
      .rw[if_neg (by rintro (h|h);exact zm h;exact Ha h)];have n0:(0<=(j:Int)+(k:Int))=True:=eq_true (by omega);have n2:((j:Int)+(k:Int)).toNat=j+k:=by omega
       have gT:True:=trivial
       have key:∀(b:Bool) (md:Nat),decide ((s[j+k]?.map UInt8.toNat)=some 40)=b->(∀(R:Option (Ex×List AV×ai)),R=gu 0 0 (bL (aH (aF (cY oU) (n+1)) (n+1) iq) gy 0 m (EA (.str s) (.vec 0 0 ([]++[(⟨kd,tx,nm,b,j⟩:Tok)]).length 5 ([]++[(⟨kd,tx,nm,b,j⟩:Tok)]).length) (.int .i64 (j+k:Nat))) ⟨1,[.row (dO ([]++[(⟨kd,tx,nm,b,j⟩:Tok)]))],0,md⟩)->
        OE (qK f s (j+k+dE (s.length+1) (s.drop (j+k))) ([]++[(⟨kd,tx,nm,decide ((s[j+k]?.map UInt8.toNat)=some 40),j⟩:Tok)])) s R):=λb md hb R hR=>by
        rw[hR,hb];exact yo n s hl hn m f ([]++[⟨kd,tx,nm,b,j⟩]) (j+k) md (by simp) (by simp<;>omega) (by omega) (by omega) (by omega)
       have xI:∀b:Bool,dO ([]++[(⟨kd,tx,nm,b,j⟩:Tok)])=dO []++[.int .i64 kd,.str tx,.int .i64 nm,.bool b,.int .i64 j]:=λb=>sR _ _
       have gr:∀b:Bool,AV.aw (dO []++[.int .i64 kd,.str tx,.int .i64 nm,.bool b,.int .i64 j])=0:=λb=>by rw[<-xI];exact nC _
       have Oq:(s[j+k]? =none/\((j:Int)+(k:Int)<(s.length:Int))=False)\/∃d,s[j+k]? =some d/\((j:Int)+(k:Int)<(s.length:Int))=True:=by
        by_cases hx:j+k<s.length
        .exact .inr ⟨s[j+k],List.getElem?_eq_getElem hx,eq_true (by omega)⟩
        .exact .inl ⟨List.getElem?_eq_none (by omega),eq_false (by omega)⟩
       rcases Oq with⟨x1,x2⟩|⟨d,x1,x2⟩
       .refine key false 0 (by simp[x1]) _ ?_;simp only[xI,List.length_append,List.length_cons,List.length_nil,Nat.zero_add,Int.natCast_add,dO,List.flatMap_nil,List.flatMap_cons,List.append_nil,Tok.cells,List.nil_append,oU];simp[oU,iq,gy,fO,cL,aT,cQ,eX,h1,h3,h6,qb,wo,q1,n0,n2,gT,x2]
       .by_cases IZ:d.toNat=40
        .have pH:((d.toNat:Int)=40)=True:=eq_true (by omega);refine key true 0 (by simp[x1,IZ]) _ ?_;simp only[xI,List.length_append,List.length_cons,List.length_nil,Nat.zero_add,Int.natCast_add,dO,List.flatMap_nil,List.flatMap_cons,List.append_nil,Tok.cells,List.nil_append,oU];simp[oU,iq,gy,fO,cL,aT,cQ,eX,h1,h3,h6,qb,wo,q1,n0,n2,gT,x1,x2,pH]
        .have pH:((d.toNat:Int)=40)=False:=eq_false (by omega);refine key false 0 (by simp[x1,IZ]) _ ?_;simp only[xI,List.length_append,List.length_cons,List.length_nil,Nat.zero_add,Int.natCast_add,dO,List.flatMap_nil,List.flatMap_cons,List.append_nil,Tok.cells,List.nil_append,oU];simp[oU,iq,gy,fO,cL,aT,cQ,eX,h1,h3,h6,qb,wo,q1,n0,n2,gT,x1,x2,pH]
    .rw[if_pos e1];refine⟨0,.inr ⟨e1,rfl,?_⟩⟩;unfold fN at q1;rw[if_pos e1] at q1;by_cases kd4:kd=4
     .rw[if_pos kd4] at q1;simp only[cL,Int.natCast_add] at q1;simp[oU,iq,gy,fO,cL,aT,cQ,eX,h1,h3,h6,qb,wo,q1,e1]
     .rw[if_neg kd4] at q1;simp only[cL,kO] at q1;simp[oU,iq,gy,fO,cL,aT,cQ,eX,h1,h3,h6,qb,wo,q1,e1]
theorem UM(s:List UInt8):∃h',aF (cY oU) (s.length+4) 67 [.str s] h0=some (oF (a8 s),h')/\(oF (a8 s)).aK=0:=by
 have hrefs:∀r:List Tok×Int×Int,(oF r).aK=0:=λr=>by simp[oF,AV.aK,AV.aw,Dg]
 refine Exists.elim ?_ λh' hh=>⟨h',hh,hrefs _⟩
 unfold a8;by_cases hl:4096<s.length
 .have h1:((4096:Int)<(s.length:Int))=True:=eq_true (by omega);rw[if_pos hl];exact⟨_,by simp[oU,P7,c67,h1,oF,j5,cQ,eX];with_reducible rfl⟩
 have h1:((4096:Int)<(s.length:Int))=False:=eq_false (by omega);rw[if_neg hl];have lp:=zE (s.length+2) s (by omega) (by omega) (s.length+3) (s.length+1) 0 0 (by omega) (by omega) (by omega);rw[List.drop_zero,Nat.zero_add] at lp;generalize qK (s.length+1) s (dE (s.length+1) s) []=R at *;obtain⟨l,aZ,e⟩:=R;simp only[oU,gy,EA,Int.natCast_zero] at lp;obtain⟨md,⟨e1,e2,e3⟩|⟨e1,e2,e3⟩⟩:=lp
 .dsimp only at e1 e2 e3;subst e1 e2
  cases l with
  |nil=>simp only[vK,hK] at e3;exact⟨_,by simp[oU,P7,c67,gy,h1,oF,j5,cQ,eX,e3];with_reducible rfl⟩
  |cons t r=>
    simp only[vK,hK] at e3;have fk:∀d,jF ⟨1,[.row (dO (t::r))],0,md⟩ 0 (d+2) (.vec 0 0 (r.length+1) 5 (r.length+1))=some (.sl ((t::r).map Tok.aV),[0]):=λd=>aaL t r (Nat.le_refl 0) rfl
    have rf:=Gj (t::r);rw[List.map_cons,AV.aw] at rf;exact⟨_,by simp[oU,P7,c67,gy,h1,oF,j5,cQ,eX,e3,fk,rf,-iA];with_reducible rfl⟩
 .dsimp only at e1 e2 e3;subst e2;exact⟨_,by simp[oU,P7,c67,gy,h1,oF,j5,cQ,eX,e3];with_reducible rfl⟩
noncomputable def Gy:aX:=⟨67,λ
 |[.str s]=>some (oF (a8 s))
 |_=>none⟩
theorem HT:Gy.f=67:=(rfl)
theorem JO(s:List UInt8):Gy.S [.str s]=some (oF (a8 s)):=(rfl)
theorem K0:aY Tryz.prog Gy:=λag v hv=>by
 unfold Gy at hv|-;dsimp only at hv|-;split at hv
 .rename_i s;cases hv;obtain⟨h',e,hr⟩:=UM s;exact bG (bA acf) e hr (by simp[AV.aK,AV.aw])
 .cases hv
structure Dw where
 T:List bj
 vs:List Int
theorem acP{T:List bj}(hg:ew T=true){s:List UInt8}{b:Bool}(h:(bd T s b).2=true):1<=(bd T s b).1.l/\(bd T s b).1.l<=1200:=by have:=OD (CF hg _ (u5 h).1);omega
theorem uw{T:List bj}(hg:ew T=true){x:AV}(hx:ba x=some T)(hT:T.length<1000000)(s:List UInt8)(b:Bool):
 ((bd T s (!b)).2=false/\iK.S [x,.str s,.bool b]=some (.int .i64 (-1)))\/
 ((bd T s (!b)).2=true/\∃i:Nat,iK.S [x,.str s,.bool b]=some (.int .i64 i)/\x=.sl (T.map bj.aV)/\(T.map bj.aV)[i]? =some (bd T s (!b)).1.aV/\i<T.length):=by
 have q:=QY hx s b (by omega);rcases JI hg s b with⟨h1,h2⟩|⟨h1,i,h2,h3⟩
 .exact .inl ⟨h1,by rw[q,h2]⟩
 .refine .inr ⟨h1,i,by rw[q,h2],?_,?_,?_⟩
  .rcases gH hx with⟨rfl,rfl⟩|rfl
   .simp at h3
   .rfl
  .rw[List.getElem?_map,h3];rfl
  .exact (List.getElem?_eq_some_iff.1 h3).1
structure DC(T:List bj)(L:List Tok)(st:St):Prop where
 rc:RC T L st
 tJ:ew T=true
noncomputable def pY:List bp->Option Rd
 |.row [x,y,.int .i64 a,v,.int .i64 b,.bool false]::os=>(match ba x,bx y,WA v os with
   |some T,some L,some l=>open Classical in if 0<=a/\0<=b/\DC T L ⟨a.toNat,(mT L).drop a.toNat,b.toNat,l⟩ then some ⟨x,y,T,L,⟨a.toNat,(mT L).drop a.toNat,b.toNat,l⟩⟩ else none
   |_,_,_=>none)
 |_=>none
def gg(x y:AV)(st:St)(bad:Bool):List bp:=.row [x,y,.int .i64 st.aZ,iL 1 st.aa,.int .i64 st.next,.bool bad]::o9 st.aa
theorem kE{x y:AV}{T:List bj}{L:List Tok}{st:St}(hx:ba x=some T)(hy:bx y=some L)(h:DC T L st):pY (gg x y st false)=some ⟨x,y,T,L,st⟩:=by
 have e:(⟨(st.aZ:Int).toNat,(mT L).drop (st.aZ:Int).toNat,(st.next:Int).toNat,st.aa⟩:St)=st:=by rw[Int.toNat_natCast,Int.toNat_natCast,<-h.rc.aC]
 unfold gg pY;simp only[hx,hy,OJ];rw[e];exact if_pos ⟨by omega,by omega,h⟩
theorem jP{os:List bp}{R:Rd}(h:pY os=some R):ba R.x=some R.T/\bx R.y=some R.L/\os=gg R.x R.y R.st false/\DC R.T R.L R.st:=by
 unfold pY at h;split at h
 .rename_i x y a v b os;split at h
  .rename_i T L l h1 h2 h3;split at h
   .rename_i hc;cases h;obtain⟨rfl,rfl⟩:=JL h3;refine⟨h1,h2,?_,hc.2.2⟩;unfold gg;dsimp only;rw[Int.toNat_of_nonneg hc.1,Int.toNat_of_nonneg hc.2.1]
   .cases h
  .cases h
 .cases h
def gj(x y:AV)(l:List (List UInt8×Int))(dn:St)(bad:Bool):List bp:=match l with
 |[]=>gg x y dn bad
 |_::_=>[.row [x,y,.int .i64 dn.aZ,iL 2 dn.aa,.int .i64 dn.next,.bool bad],.dead,.row (aQ dn.aa)]
section
variable {c:Bool}
theorem uS{x y:AV}(hx:Laid x)(hy:Laid y)(g:Nat->Nat)(a b:Int)(v:AV):gB g (.row [x,y,.int .i64 a,v,.int .i64 b,.bool c])=.row [x,y,.int .i64 a,sig g v,.int .i64 b,.bool c]:=by show bp.row [sig g x,sig g y,.int .i64 a,sig g v,.int .i64 b,.bool c]=_;rw[hx.sg,hy.sg]
theorem y6{x y:AV}(hx:Laid x)(hy:Laid y){n:Nat}(a b:Int){v:AV}(hv:Sz.qu n v=true):BN n (.row [x,y,.int .i64 a,v,.int .i64 b,.bool c])=true:=by simp only[BN,List.all_cons,List.all_nil,Bool.and_true,kG n hx.aK,kG n hy.aK,hv];rfl
theorem lK{x y:AV}(hx:Laid x)(hy:Laid y)(a b:Int):fJ [x,y,.int .i64 a,.aJ,.int .i64 b,.bool c] [0]=[0]:=by simp only[fJ,hx.top,hy.top];rfl
theorem lQ{x y:AV}(hx:Laid x)(hy:Laid y)(a b:Int)(k l:Nat)(hk:(0=k)=False):fJ [x,y,.int .i64 a,.vec k 0 l 2 l,.int .i64 b,.bool c] [0]=[0,k]:=by simp only[fJ,hx.top,hy.top];show (if o5 [0] k then ([0]:List Nat) else [0,k])=_;simp only[o5,hk,if_false];rfl
theorem lS{x y:AV}(hx:Laid x)(hy:Laid y)(τ:List Nat)(a b:Int):okO τ (.row [x,y,.int .i64 a,.aJ,.int .i64 b,.bool c])=true:=by simp only[okO,List.all_cons,List.all_nil,hx.ok,hy.ok];rfl
theorem lO{x y:AV}(hx:Laid x)(hy:Laid y)(τ:List Nat)(a b:Int)(k l:Nat):okO τ (.row [x,y,.int .i64 a,.vec k 0 l 2 l,.int .i64 b,.bool c])=o5 τ k:=by simp only[okO,List.all_cons,List.all_nil,hx.ok,hy.ok];show (true&&(true&&(true&&(true&&(o5 τ k&&true)))))=_;simp
theorem lM{x y:AV}(hx:Laid x)(hy:Laid y)(g:Nat->Nat)(a b:Int):gB g (.row [x,y,.int .i64 a,.aJ,.int .i64 b,.bool c])=.row [x,y,.int .i64 a,.aJ,.int .i64 b,.bool c]:=uS hx hy g a b .aJ
theorem lT{x y:AV}(hx:Laid x)(hy:Laid y)(g:Nat->Nat)(a b:Int)(k l:Nat):gB g (.row [x,y,.int .i64 a,.vec k 0 l 2 l,.int .i64 b,.bool c])=.row [x,y,.int .i64 a,.vec (g k) 0 l 2 l,.int .i64 b,.bool c]:=uS hx hy g a b _
end
section
variable {X:World->Prop}{P:Program}{E:Env}(hE:cT P X E){n f:Nat}{aC:List AV}{x y v:AV}{st dn:St}{b:Bool}(hx:Laid x)(hy:Laid y)
include hE hx hy
theorem cp(h0:st.aa=[])(h1:dn.aa=[])(he:(aF E n f (.ptr 0 0::aC) ⟨1,[.row [x,y,.int .i64 st.aZ,.aJ,.int .i64 st.next,.bool false]],1,1⟩).map (λp=>(p.1,p.2.get 0))=some (v,some (.row [x,y,.int .i64 dn.aZ,.aJ,.int .i64 dn.next,.bool b])))
 (hv:v.aK=0) (hr:AV.aw aC=0):dA P X f (.ptr 0 0::aC) (gg x y st false) v (some (gj x y st.aa dn b)):=by
 have e1:gg x y st false=[.row [x,y,.int .i64 st.aZ,.aJ,.int .i64 st.next,.bool false]]:=by unfold gg;rw[h0];rfl
 have e2:gj x y st.aa dn b=[.row [x,y,.int .i64 dn.aZ,.aJ,.int .i64 dn.next,.bool b]]:=by unfold gj;rw[h0];unfold gg;rw[h1];rfl
 rw[e1,e2];exact oW hE he hv hr (by simp[AV.aw,hx.aK,hy.aK,AV.aK])
theorem dh(k:Nat)(hk:1<=k)(h0:st.aa=[])(h1:dn.aa≠[])(he:(aF E n f (.ptr 0 0::aC) ⟨1,[.row [x,y,.int .i64 st.aZ,.aJ,.int .i64 st.next,.bool false]],1,1⟩).map (λp=>(p.1,p.2.get 0,p.2.get k))=
 some (v,some (.row [x,y,.int .i64 dn.aZ,.vec k 0 dn.aa.length 2 dn.aa.length,.int .i64 dn.next,.bool b]),some (.row (aQ dn.aa))))
 (hv:v.aK=0) (hr:AV.aw aC=0):dA P X f (.ptr 0 0::aC) (gg x y st false) v (some (gj x y st.aa dn b)):=by
 have e1:gg x y st false=[.row [x,y,.int .i64 st.aZ,.aJ,.int .i64 st.next,.bool false]]:=by unfold gg;rw[h0];rfl
 have e2:gj x y st.aa dn b=[.row [x,y,.int .i64 dn.aZ,.vec 1 0 dn.aa.length 2 dn.aa.length,.int .i64 dn.next,.bool b],.row (aQ dn.aa)]:=by
  unfold gj;rw[h0];unfold gg iL o9
  cases hn:dn.aa with
  |nil=>exact absurd hn h1
  |cons p r=>rfl
 rw[e1,e2];obtain⟨⟨v1,h⟩,g1,g2⟩:=Option.map_eq_some_iff.1 he;simp only[Prod.mk.injEq] at g2;obtain⟨rfl,g3,g4⟩:=g2;refine se (qs:=[k]) hE g1 hv hr (by simp) (by simp) ⟨λi o ho _=>?_,λi j o o' hi hj _ _ e=>?_⟩
 .match i,ho with
  |0,ho=>simp only[List.getElem?_cons_zero,Option.some.injEq] at ho;subst ho;rw[uS hx hy];exact⟨g3,y6 hx hy _ _ (by rfl)⟩
  |1,ho=>simp only[List.getElem?_cons_succ,List.getElem?_cons_zero,Option.some.injEq] at ho;subst ho;rw[ma _ (bf _)];exact⟨g4,jS _ (bf _)⟩
  |i+2,ho=>simp at ho
 .have jE:=(List.getElem?_eq_some_iff.1 hi).1;have kP:=(List.getElem?_eq_some_iff.1 hj).1;simp only[List.length_cons,List.length_nil] at jE kP
  have r0:∀i,i<2->qH 1 [k] i=if i=0 then 0 else k:=λi hi=>by
   match i,hi with
   |0,_=>rfl
   |1,_=>rfl
  rw[List.length_cons,List.length_nil,r0 i jE,r0 j kP] at e;split at e<;>split at e<;>omega
theorem cd(k:Nat)(hk:1<=k)(h0:st.aa≠[])(h1:dn.aa≠[])(he:(aF E n f (.ptr 0 0::aC) ⟨2,[.row (aQ st.aa),.row [x,y,.int .i64 st.aZ,.vec 1 0 st.aa.length 2 st.aa.length,.int .i64 st.next,.bool false]],2,2⟩).map (λp=>(p.1,p.2.get 0,p.2.get k))=
 some (v,some (.row [x,y,.int .i64 dn.aZ,.vec k 0 dn.aa.length 2 dn.aa.length,.int .i64 dn.next,.bool b]),some (.row (aQ dn.aa))))
 (hv:v.aK=0) (hr:AV.aw aC=0):dA P X f (.ptr 0 0::aC) (gg x y st false) v (some (gj x y st.aa dn b)):=by
 have e1:gg x y st false=[.row [x,y,.int .i64 st.aZ,.vec 1 0 st.aa.length 2 st.aa.length,.int .i64 st.next,.bool false],.row (aQ st.aa)]:=by
  unfold gg iL o9
  cases hn:st.aa with
  |nil=>exact absurd hn h0
  |cons p r=>rfl
 have e2:gj x y st.aa dn b=[.row [x,y,.int .i64 dn.aZ,.vec 2 0 dn.aa.length 2 dn.aa.length,.int .i64 dn.next,.bool b],.dead,.row (aQ dn.aa)]:=by
  unfold gj
  cases hn:st.aa with
  |nil=>exact absurd hn h0
  |cons p r=>
    dsimp only;unfold iL
    cases hm:dn.aa with
    |nil=>exact absurd hm h1
    |cons q s=>rfl
 rw[e1,e2];obtain⟨⟨v1,h⟩,g1,g2⟩:=Option.map_eq_some_iff.1 he;simp only[Prod.mk.injEq] at g2;obtain⟨rfl,g3,g4⟩:=g2;refine se (qs:=[k]) hE g1 hv hr (by simp) (by simp) ⟨λi o ho hd=>?_,λi j o o' hi hj E1 hdj e=>?_⟩
 .match i,ho with
  |0,ho=>simp only[List.getElem?_cons_zero,Option.some.injEq] at ho;subst ho;rw[uS hx hy];exact⟨g3,y6 hx hy _ _ (by rfl)⟩
  |1,ho=>simp only[List.getElem?_cons_succ,List.getElem?_cons_zero,Option.some.injEq] at ho;exact absurd ho.symm hd
  |2,ho=>simp only[List.getElem?_cons_succ,List.getElem?_cons_zero,Option.some.injEq] at ho;subst ho;rw[ma _ (bf _)];exact⟨g4,jS _ (bf _)⟩
  |i+3,ho=>simp at ho
 .have pick:∀(i:Nat) (o:bp),([.row [x,y,.int .i64 dn.aZ,.vec 2 0 dn.aa.length 2 dn.aa.length,.int .i64 dn.next,.bool b],.dead,.row (aQ dn.aa)]:List bp)[i]? =some o->(∀_:o=.dead,False)->(i=0/\qH 2 [k] i=0)\/(i=2/\qH 2 [k] i=k):=λi o ho hd=>by
   match i,ho with
   |0,_=>exact .inl ⟨rfl,rfl⟩
   |1,ho=>simp only[List.getElem?_cons_succ,List.getElem?_cons_zero,Option.some.injEq] at ho;exact absurd ho.symm hd
   |2,_=>exact .inr ⟨rfl,rfl⟩
   |i+3,ho=>simp at ho
  simp only[List.length_cons,List.length_nil,Nat.zero_add] at e;rcases pick i o hi E1 with⟨a1,a2⟩|⟨a1,a2⟩<;>rcases pick j o' hj hdj with⟨b1,b2⟩|⟨b1,b2⟩<;>rw[a2,b2] at e<;>omega
end
section
variable {X:World->Prop}{P:Program}{E:Env}(hE:cT P X E){n f:Nat}{aC:List AV}{x y v:AV}{st dn:St}{b:Bool}(hx:Laid x)(hy:Laid y)
include hE hx hy
theorem wO(h1:st.aa=[]->(aF E n f (.ptr 0 0::aC) ⟨1,[.row [x,y,.int .i64 st.aZ,.aJ,.int .i64 st.next,.bool false]],1,1⟩).map (λp=>(p.1,p.2.get 0))=some (v,some (.row [x,y,.int .i64 st.aZ,.aJ,.int .i64 st.next,.bool false])))
 (h2:st.aa≠[]->(aF E n f (.ptr 0 0::aC) ⟨2,[.row (aQ st.aa),.row [x,y,.int .i64 st.aZ,.vec 1 0 st.aa.length 2 st.aa.length,.int .i64 st.next,.bool false]],2,2⟩).map (λp=>(p.1,p.2.get 0,p.2.get 1))=
  some (v,some (.row [x,y,.int .i64 st.aZ,.vec 1 0 st.aa.length 2 st.aa.length,.int .i64 st.next,.bool false]),some (.row (aQ st.aa))))
 (hv:v.aK=0) (hr:AV.aw aC=0):dA P X f (.ptr 0 0::aC) (gg x y st false) v none:=by
 by_cases h0:st.aa=[]
 .have e1:gg x y st false=[.row [x,y,.int .i64 st.aZ,.aJ,.int .i64 st.next,.bool false]]:=by unfold gg;rw[h0];rfl
  rw[e1];obtain⟨⟨v1,h⟩,g1,g2⟩:=Option.map_eq_some_iff.1 (h1 h0);simp only[Prod.mk.injEq] at g2;obtain⟨rfl,g3⟩:=g2;exact Ar hE g1 g3 hv hr (by simp[AV.aw,hx.aK,hy.aK,AV.aK])
 .have e1:gg x y st false=[.row [x,y,.int .i64 st.aZ,.vec 1 0 st.aa.length 2 st.aa.length,.int .i64 st.next,.bool false],.row (aQ st.aa)]:=by
   unfold gg iL o9
   cases hn:st.aa with
   |nil=>exact absurd hn h0
   |cons p r=>rfl
  rw[e1];obtain⟨⟨v1,h⟩,g1,g2⟩:=Option.map_eq_some_iff.1 (h2 h0);simp only[Prod.mk.injEq] at g2;obtain⟨rfl,g3,g4⟩:=g2;refine DK hE g1 (λi hi=>?_) hv hr (by simp) (λo ho=>?_)
  .match i,hi with
   |0,_=>exact g3
   |1,_=>exact g4
   |i+2,hi=>simp only[List.length_cons,List.length_nil] at hi;omega
  .simp only[List.mem_cons,List.not_mem_nil,or_false] at ho;rcases ho with rfl|rfl
   .exact y6 hx hy _ _ (by rfl)
   .exact jS _ (bf _)
theorem MI(lV:dn.aa=st.aa)(h1:st.aa=[]->(aF E n f (.ptr 0 0::aC) ⟨1,[.row [x,y,.int .i64 st.aZ,.aJ,.int .i64 st.next,.bool false]],1,1⟩).map (λp=>(p.1,p.2.get 0))=some (v,some (.row [x,y,.int .i64 dn.aZ,.aJ,.int .i64 dn.next,.bool b])))
 (h2:st.aa≠[]->(aF E n f (.ptr 0 0::aC) ⟨2,[.row (aQ st.aa),.row [x,y,.int .i64 st.aZ,.vec 1 0 st.aa.length 2 st.aa.length,.int .i64 st.next,.bool false]],2,2⟩).map (λp=>(p.1,p.2.get 0,p.2.get 1))=
  some (v,some (.row [x,y,.int .i64 dn.aZ,.vec 1 0 st.aa.length 2 st.aa.length,.int .i64 dn.next,.bool b]),some (.row (aQ st.aa))))
 (hv:v.aK=0) (hr:AV.aw aC=0):dA P X f (.ptr 0 0::aC) (gg x y st false) v (some (gg x y dn b)):=by
 by_cases h0:st.aa=[]
 .have e1:gg x y st false=[.row [x,y,.int .i64 st.aZ,.aJ,.int .i64 st.next,.bool false]]:=by unfold gg;rw[h0];rfl
  have e2:gg x y dn b=[.row [x,y,.int .i64 dn.aZ,.aJ,.int .i64 dn.next,.bool b]]:=by unfold gg;rw[lV,h0];rfl
  rw[e1,e2];exact oW hE (h1 h0) hv hr (by simp[AV.aw,hx.aK,hy.aK,AV.aK])
 .have e1:∀(s:St) (bb:Bool),s.aa=st.aa->gg x y s bb=[.row [x,y,.int .i64 s.aZ,.vec 1 0 st.aa.length 2 st.aa.length,.int .i64 s.next,.bool bb],.row (aQ st.aa)]:=λs bb hs=>by
   unfold gg iL o9;rw[hs]
   cases hn:st.aa with
   |nil=>exact absurd hn h0
   |cons p r=>rfl
  rw[e1 st false rfl,e1 dn b lV];obtain⟨⟨v1,h⟩,g1,g2⟩:=Option.map_eq_some_iff.1 (h2 h0);simp only[Prod.mk.injEq] at g2;obtain⟨rfl,g3,g4⟩:=g2;refine se (qs:=[]) hE g1 hv hr (by simp) (by simp) (yY (by simp) (by simp) (by simp) λi o ho _=>?_)
  match i,ho with
  |0,ho=>simp only[List.getElem?_cons_zero,Option.some.injEq] at ho;subst ho;rw[uS hx hy];exact⟨g3,y6 hx hy _ _ (by rfl)⟩
  |1,ho=>simp only[List.getElem?_cons_succ,List.getElem?_cons_zero,Option.some.injEq] at ho;subst ho;rw[ma _ (bf _)];exact⟨g4,jS _ (bf _)⟩
  |i+2,ho=>simp at ho
end
theorem aU{x y:AV}{st:St}{b:Bool}(h:st.aa=[]):gg x y st b=[.row [x,y,.int .i64 st.aZ,.aJ,.int .i64 st.next,.bool b]]:=by unfold gg;rw[h];rfl
theorem aS{x y:AV}{st:St}{b:Bool}(h:st.aa≠[]):gg x y st b=[.row [x,y,.int .i64 st.aZ,.vec 1 0 st.aa.length 2 st.aa.length,.int .i64 st.next,.bool b],.row (aQ st.aa)]:=by
 unfold gg iL o9
 cases hn:st.aa with
 |nil=>exact absurd hn h
 |cons p r=>rfl
theorem cI{x y:AV}{st:St}{b:Bool}(h:st.aa=[]):gj x y [] st b=[.row [x,y,.int .i64 st.aZ,.aJ,.int .i64 st.next,.bool b]]:=aU h
theorem ch{x y:AV}{st:St}{b:Bool}(h:st.aa≠[]):gj x y [] st b=[.row [x,y,.int .i64 st.aZ,.vec 1 0 st.aa.length 2 st.aa.length,.int .i64 st.next,.bool b],.row (aQ st.aa)]:=aS h
theorem dv{x y:AV}{l:List (List UInt8×Int)}{st:St}{b:Bool}(h0:l≠[])(h:st.aa≠[]):gj x y l st b=[.row [x,y,.int .i64 st.aZ,.vec 2 0 st.aa.length 2 st.aa.length,.int .i64 st.next,.bool b],.dead,.row (aQ st.aa)]:=by
 unfold gj
 cases l with
 |nil=>exact absurd rfl h0
 |cons q s=>
   dsimp only;unfold iL
   cases hn:st.aa with
   |nil=>exact absurd hn h
   |cons p r=>rfl
noncomputable def mr:cr:=⟨69,λ
 |[.ptr 0 0],os=>(match pY os with|some R=>some ((aM R.L R.st).aV,none)|none=>none)
 |_,_=>none⟩
theorem cM:mr.f=69:=(rfl)
theorem ee{x y:AV}{T:List bj}{L:List Tok}{st:St}(hx:ba x=some T)(hy:bx y=some L)(h:DC T L st):mr.S [.ptr 0 0] (gg x y st false)=some ((aM L st).aV,none):=by simp only[mr,kE hx hy h]
theorem Kv(v:AV)(hv:v=.aJ\/∃k l,v=.vec k 0 l 2 l)(x y:AV)(T:List bj)(L:List Tok)(st:St)(hx:ba x=some T)(hy:bx y=some L)(h:DC T L st):
 (aF (b9 [] []) 4 69 [.ptr 0 0] ⟨1,[.row [x,y,.int .i64 st.aZ,v,.int .i64 st.next,.bool false]],1,1⟩=some ((aM L st).aV,⟨1,[.row [x,y,.int .i64 st.aZ,v,.int .i64 st.next,.bool false]],1,1⟩))/\
 ∀F,(aF (b9 [] []) 4 69 [.ptr 0 0] ⟨2,[.row F,.row [x,y,.int .i64 st.aZ,v,.int .i64 st.next,.bool false]],2,2⟩=some ((aM L st).aV,⟨2,[.row F,.row [x,y,.int .i64 st.aZ,v,.int .i64 st.next,.bool false]],2,2⟩)):=by
 have aP:=jR hy;have xH:=h.rc.lb;have W8:(aM L st).aV=.agg [.int .i64 (aM L st).au,.str (aM L st).aD,.int .i64 (aM L st).cF,.bool (aM L st).jq,.int .i64 (aM L st).aZ]:=rfl;rcases Ks h.rc with⟨h1,h2⟩|⟨h1,h2⟩
 .have h3:((L.length:Int)<=(st.aZ:Int))=False:=eq_false (by omega)
  have hyl:y=.sl (L.map Tok.aV):=by
   rcases pJ hy with⟨rfl,rfl⟩|rfl
   .simp at h1
   .rfl
  subst hyl;have hc:(L.map Tok.aV)[st.aZ]? =some (.agg [.int .i64 (aM L st).au,.str (aM L st).aD,.int .i64 (aM L st).cF,.bool (aM L st).jq,.int .i64 (aM L st).aZ]):=by rw[List.getElem?_map,h2];rfl
  have hUl:(L.map Tok.aV).length=L.length:=List.length_map _;have b0:(0:Int)<=(st.aZ:Int):=by omega
  rw[W8];generalize aM L st=t at *;have G4:(L.length<=st.aZ)=False:=eq_false (by omega);generalize L.map Tok.aV=U at *;refine⟨?_,λF=>?_⟩
  .simp[HQ,c69,hUl,h3,G4,hc,b0]
  .simp[HQ,c69,hUl,h3,G4,hc,b0]
 .have h3:((L.length:Int)<=(st.aZ:Int))=True:=eq_true (by omega);rw[W8,h2];refine⟨?_,λF=>?_⟩
  .simp[HQ,c69,aP,h3,kO,h1]
  .simp[HQ,c69,aP,h3,kO,h1]
theorem pj:cC Tryz.prog cX mr:=λag os v r hv=>by
 unfold mr at hv;dsimp only at hv;split at hv
 .rename_i os;split at hv
  .rename_i R hR;cases hv;obtain⟨hx,hy,rfl,hc⟩:=jP hR;rw[cM];have hE:cT Tryz.prog cX (b9 [] []):=dK (by simp) (by simp);refine wO (n:=4) hE (aR hx) (aI hy) (λ_=>?_) (λ_=>?_) (by simp[Tok.aV,Tok.cells,AV.aK,AV.aw]) rfl
   .rw[(Kv .aJ (.inl rfl) _ _ _ _ _ hx hy hc).1];rfl
   .rw[(Kv (.vec 1 0 _ 2 _) (.inr ⟨1,_,rfl⟩) _ _ _ _ _ hx hy hc).2];rfl
  .cases hv
 .cases hv
noncomputable def tZ:cr:=⟨155,λ
 |[.ptr 0 0,.str s],os=>(match pY os with|some R=>some (.bool (ax s R.st).1,some (gg R.x R.y (ax s R.st).2 false))|none=>none)
 |_,_=>none⟩
theorem ub:tZ.f=155:=(rfl)
theorem ef{x y:AV}{T:List bj}{L:List Tok}{st:St}(hx:ba x=some T)(hy:bx y=some L)(h:DC T L st)(s:List UInt8):tZ.S [.ptr 0 0,.str s] (gg x y st false)=some (.bool (ax s st).1,some (gg x y (ax s st).2 false)):=by simp only[tZ,kE hx hy h]
theorem zI:cC Tryz.prog cX tZ:=λag os v r hv=>by
 unfold tZ at hv;dsimp only at hv;split at hv
 .rename_i os s;split at hv
  .rename_i R hR;cases hv;obtain⟨hx,hy,rfl,hc⟩:=jP hR;obtain⟨x,y,T,L,st⟩:=R;dsimp only at hx hy hc|-;rw[ub];have hE:cT Tryz.prog cX (b9 [] [mr]):=dK (by simp) (by simp[pj]);have aN:=aR hx;have aP:=aI hy;have q:=ee hx hy hc;rw[bK] at q;have W9:=bm hc.rc;have cR:=hc.rc.le;have xH:=hc.rc.lb;have w:=wrap_i64 (n:=(st.aZ:Int)+1) (by omega) (by omega);have x1:=aN.aK;have y1:=aP.aK;have g1:=λc=>lK (c:=c) aN aP;have g2:=λc=>lQ (c:=c) aN aP;have g3:=λc=>lS (c:=c) aN aP;have g4:=λc=>lO (c:=c) aN aP;have g5:=λc=>lM (c:=c) aN aP;have g6:=λc=>lT (c:=c) aN aP
   have key:∀c d:Bool,(aM L st).au=5/\c=true\/¬(aM L st).au=5/\c=false->((aM L st).aD==s)=d->
    (st.aa=[]->(aF (b9 [] [mr]) 6 155 [.ptr 0 0,.str s] ⟨1,[.row [x,y,.int .i64 st.aZ,.aJ,.int .i64 st.next,.bool false]],1,1⟩).map (λp=>(p.1,p.2.get 0))=some (.bool (c&&d),some (.row [x,y,.int .i64 (if c&&d then (st.aZ:Int)+1 else st.aZ),.aJ,.int .i64 st.next,.bool false])))/\
    (st.aa≠[]->(aF (b9 [] [mr]) 6 155 [.ptr 0 0,.str s] ⟨2,[.row (aQ st.aa),.row [x,y,.int .i64 st.aZ,.vec 1 0 st.aa.length 2 st.aa.length,.int .i64 st.next,.bool false]],2,2⟩).map (λp=>(p.1,p.2.get 0,p.2.get 1))=
     some (.bool (c&&d),some (.row [x,y,.int .i64 (if c&&d then (st.aZ:Int)+1 else st.aZ),.vec 1 0 st.aa.length 2 st.aa.length,.int .i64 st.next,.bool false]),some (.row (aQ st.aa)))):=λc d hcd hd=>by
    have f1:=db st.aa;have f2:=dc st.aa;have f3:=bf st.aa;refine⟨λh0=>?_,λh0=>?_⟩
    .rw[aU h0] at q;generalize aM L st=t at *;rcases hcd with⟨k5,rfl⟩|⟨k5,rfl⟩
     .rw[k5] at q
      cases d with
      |true=>
        have:t.aD=s:=by simpa using hd
        subst this;simp[vj,Hn,cM,q,x1,y1,g1,g2,g3,g4,g5,g6,-af,-aj,-ah,w]
      |false=>
        have hn:¬t.aD=s:=by simpa using hd
        simp[vj,Hn,cM,q,x1,y1,g1,g2,g3,g4,g5,g6,-af,-aj,-ah,w,hd,hn]
     .simp[vj,Hn,cM,q,x1,y1,g1,g2,g3,g4,g5,g6,-af,-aj,-ah,w,k5]
    .rw[aS h0] at q;generalize aQ st.aa=F at *;generalize aM L st=t at *;generalize st.aa.length=n at *;rcases hcd with⟨k5,rfl⟩|⟨k5,rfl⟩
     .rw[k5] at q
      cases d with
      |true=>
        have:t.aD=s:=by simpa using hd
        subst this;simp[vj,Hn,cM,q,x1,y1,g1,g2,g3,g4,g5,g6,-af,-aj,-ah,f1,f2,f3,w]
      |false=>
        have hn:¬t.aD=s:=by simpa using hd
        simp[vj,Hn,cM,q,x1,y1,g1,g2,g3,g4,g5,g6,-af,-aj,-ah,f1,f2,f3,w,hd,hn]
     .simp[vj,Hn,cM,q,x1,y1,g1,g2,g3,g4,g5,g6,-af,-aj,-ah,f1,f2,f3,w,k5]
   obtain⟨hn1,cO⟩:=b8 s st
   have IS:∀c d:Bool,(aM L st).au=5/\c=true\/¬(aM L st).au=5/\c=false->((aM L st).aD==s)=d->(ax s st).1=(c&&d)/\((ax s st).2.aZ:Int)=(if c&&d then (st.aZ:Int)+1 else st.aZ):=λc d hcd hd=>by
    have k1:(aL st).au=(aM L st).au:=by rw[W9]
    have k2:(aL st).aD=(aM L st).aD:=by rw[W9]
    unfold ax;rw[k1,k2];rcases hcd with⟨k5,rfl⟩|⟨k5,rfl⟩
    .cases d with
     |true=>rw[if_pos ⟨k5,by simpa using hd⟩];exact⟨rfl,by simp[aq]⟩
     |false=>rw[if_neg (λe=>by rw[e.2] at hd;simp at hd)];exact⟨rfl,by simp⟩
    .rw[if_neg (λe=>k5 e.1)];exact⟨rfl,by simp⟩
   obtain⟨c,pE⟩:∃c:Bool,(aM L st).au=5/\c=true\/¬(aM L st).au=5/\c=false:=by
    by_cases h:(aM L st).au=5
    .exact⟨true,.inl ⟨h,rfl⟩⟩
    .exact⟨false,.inr ⟨h,rfl⟩⟩
   obtain⟨k1,k2⟩:=key c _ pE rfl;obtain⟨v1,v2⟩:=IS c _ pE rfl;refine MI (n:=6) hE aN aP hn1 (λh0=>?_) (λh0=>?_) rfl rfl
   .rw[v1,v2,cO];exact k1 h0
   .rw[v1,v2,cO];exact k2 h0
  .cases hv
 .cases hv
theorem F5:∀{l:List (List UInt8×Int)},zY l=true->mK [95] l=none
 |[],_=>rfl
 |p::r,h=>by unfold zY at h;rw[List.all_cons,Bool.and_eq_true] at h;unfold mK;rw[if_neg (by simpa using h.1)];exact F5 h.2
theorem FG(n:Nat)(s:List UInt8)(aal:¬s=[95])(l:List (List UInt8×Int))(hl:l.length<1000000){x y:AV}(aN:Laid x)(aP:Laid y)(a b:Int):∀(post pre:List (List UInt8×Int)) (m md:Nat),l=pre++post->post.length<m->
 ∃cq,gu 3 2 (bL (aH (aF (b9 [] []) (n+1)) (n+1) pN) mJ 3 m (OQ (.ptr 0 0) (.str s) (.ptr 2 0) (.int .i64 pre.length)) ⟨3,[.row [.int .i64 0,.int .i64 0,.str [],.aJ],.row (aQ l),.row [x,y,.int .i64 a,.vec 1 0 l.length 2 l.length,.int .i64 b,.bool false]],3,md⟩)=
   (match mK s post with
    |some k=>some (.ret,FM 68 [(4,.ptr 2 0)],⟨3,[.row [.int .i64 0,.int .i64 k,.str [],.aJ],.row (aQ l),.row [x,y,.int .i64 a,.vec 1 0 l.length 2 l.length,.int .i64 b,.bool false]],2,cq⟩)
    |none=>some (.exit 0,FM 68 [(0,.ptr 0 0),(1,.str s),(4,.ptr 2 0)],⟨3,[.row [.int .i64 0,.int .i64 0,.str [],.aJ],.row (aQ l),.row [x,y,.int .i64 a,.vec 1 0 l.length 2 l.length,.int .i64 b,.bool false]],2,cq⟩))
 |_,_,0,_,_,h=>by omega
 |[],pre,m+1,md,hs,_=>by rw[ak];rw[List.append_nil] at hs;subst hs;have f3:=bf l;have x1:=aN.aK;have y1:=aP.aK;generalize aQ l=F at *;exact⟨md,by simp[pN,mJ,mK,f3,x1,y1]⟩
 |p::r,pre,m+1,md,hs,hm=>by
   rw[ak];have x1:=aN.aK;have y1:=aP.aK;have zd:pre.length+r.length+1=l.length:=by rw[hs];simp;omega
   have h6:((pre.length:Int)<(l.length:Int))=True:=eq_true (by omega);have h6':(pre.length<l.length)=True:=eq_true (by omega);have h3:IntKind.i64.wrap ((pre.length:Int)+1)=(pre.length:Int)+1:=wrap_i64 (by omega) (by omega)
   have hd:(aQ l).drop (pre.length*2)=.str p.1::.int .i64 p.2::aQ r:=by
    have e:aQ l=aQ pre++aQ (p::r):=by rw[hs];unfold aQ;rw[List.flatMap_append]
    rw[e,<-nu pre,List.drop_left];rfl
   have SP:(aQ l)[pre.length*2]? =some (.str p.1):=by have:=congrArg (·[0]?) hd;simpa[List.getElem?_drop] using this
   have hg1:(aQ l)[pre.length*2+1]? =some (.int .i64 p.2):=by have:=congrArg (·[1]?) hd;simpa[List.getElem?_drop] using this
   have f3:=bf l;obtain⟨cq,ih⟩:=FG n s aal l hl aN aP a b r (pre++[p]) m md (by rw[hs];simp) (by simp at hm;omega);simp only[List.length_append,List.length_cons,List.length_nil,Nat.zero_add,Int.natCast_add,Int.natCast_one] at ih;have Qh:(s==[95])=false:=by simpa using aal
   unfold mK;generalize aQ l=F at *;by_cases hv:p.1=s
   .rw[if_pos hv];subst hv;exact⟨_,by simp[pN,mJ,h3,h6,h6',hd,SP,hg1,f3,x1,y1,aal,Qh];with_reducible rfl⟩
   .rw[if_neg hv];have hvb:(p.1==s)=false:=by simpa using hv
    refine⟨cq,?_⟩;refine Eq.trans ?_ ih;simp[pN,mJ,h3,h6,h6',hd,SP,hg1,f3,x1,y1,hv,hvb,aal,Qh]
noncomputable def FU:cr:=⟨152,λ
 |[.ptr 0 0,.str s],os=>(match pY os with|some R=>some ((jJ s R.st).1.aV,some (gj R.x R.y R.st.aa (jJ s R.st).2 false))|none=>none)
 |_,_=>none⟩
theorem PF:FU.f=152:=(rfl)
theorem Wf{x y:AV}{T:List bj}{L:List Tok}{st:St}(hx:ba x=some T)(hy:bx y=some L)(h:DC T L st)(s:List UInt8):FU.S [.ptr 0 0,.str s] (gg x y st false)=some ((jJ s st).1.aV,some (gj x y st.aa (jJ s st).2 false)):=by simp only[FU,kE hx hy h]
theorem TX:cC Tryz.prog cX FU:=λag os v r hv=>by
 unfold FU at hv;dsimp only at hv;split at hv
 .rename_i os s;split at hv
  .rename_i R hR;cases hv;obtain⟨hx,hy,rfl,hc⟩:=jP hR;obtain⟨x,y,T,L,st⟩:=R;dsimp only at hx hy hc|-;rw[PF];have hE:cT Tryz.prog cX (b9 [] []):=dK (by simp) (by simp);have aN:=aR hx;have aP:=aI hy;have cR:=hc.rc.le;have xH:=hc.rc.lb;have BR:=hc.rc.nx;have lV:=hc.rc.nm;have w:=wrap_i64 (n:=(st.next:Int)+1) (by omega) (by omega);have w2:=wrap_i64 (n:=(st.next:Int)) (by omega) (by omega);have x1:=aN.aK;have y1:=aP.aK;by_cases h0:st.aa=[]
   .have hf:mK s st.aa=none:=by rw[h0];rfl
    rw[yV hf];by_cases hs:s=[95]
    .subst hs;refine cp (n:=6) hE aN aP h0 ?_ ?_ (Tm.cm _) rfl
     .show (if ([95]:List UInt8)=[95] then st.aa else st.aa++[([95],(st.next:Int))])=[];rw[if_pos rfl,h0]
     .rw[Xk];show (aF (b9 [] []) 6 152 [.ptr 0 0,.str [95]] ⟨1,[.row [x,y,.int .i64 st.aZ,.aJ,.int .i64 st.next,.bool false]],1,1⟩).map _=_;simp[ym,c152,mJ,pN,ak,x1,y1,w,w2]
    .have Qh:(s==[95])=false:=by simpa using hs
     refine dh (n:=6) hE aN aP 3 (by decide) h0 ?_ ?_ (Tm.cm _) rfl
     .show (if s=[95] then st.aa else st.aa++[(s,(st.next:Int))])≠[];rw[if_neg hs,h0];simp
     .rw[Xk];show (aF (b9 [] []) 6 152 [.ptr 0 0,.str s] ⟨1,[.row [x,y,.int .i64 st.aZ,.aJ,.int .i64 st.next,.bool false]],1,1⟩).map _=_;simp only[if_neg hs,h0,List.nil_append];simp[ym,c152,mJ,pN,ak,x1,y1,w,w2,hs,Qh,aQ,aT,eH]
   .have fZ:0<st.aa.length:=List.length_pos_iff.2 h0;have f3:=bf st.aa;have fl:=nu st.aa;have hb1:(st.aa.length+1)*24<=140737488355328:=by omega
    have A3:st.aa.length+1<9223372036854775808:=by omega
    have nH:((0:Int)<(st.aa.length:Int))=True:=eq_true (by omega);by_cases hs:s=[95]
    .subst hs;have hf:mK [95] st.aa=none:=F5 hc.rc.Mh;rw[yV hf];have hn:(if ([95]:List UInt8)=[95] then st.aa else st.aa++[([95],(st.next:Int))])=st.aa:=if_pos rfl;rw[hn];refine cd (n:=6) hE aN aP 1 (by decide) h0 h0 ?_ (Tm.cm _) rfl;rw[Xk];show (aF (b9 [] []) 6 152 [.ptr 0 0,.str [95]] ⟨2,[.row (aQ st.aa),.row [x,y,.int .i64 st.aZ,.vec 1 0 st.aa.length 2 st.aa.length,.int .i64 st.next,.bool false]],2,2⟩).map _=some (_,some (bp.row [x,y,.int .i64 st.aZ,.vec 1 0 st.aa.length 2 st.aa.length,.int .i64 ((st.next+1:Nat):Int),.bool false]),some (bp.row (aQ st.aa)));generalize aQ st.aa=F at *;generalize st.aa.length=n at *;simp[ym,c152,mJ,pN,ak,x1,y1,w,w2,f3,nH,fZ]
    .have Qh:(s==[95])=false:=by simpa using hs
     obtain⟨cq,lp⟩:=FG 199998 s hs st.aa (by omega) aN aP st.aZ st.next st.aa [] 199999 2 rfl (by omega)
     simp only[mJ,OQ,List.length_nil,Int.natCast_zero] at lp
     cases hf:mK s st.aa with
     |some k=>rw[hf] at lp;rw[F1 hf];refine cd (n:=200000) hE aN aP 1 (by decide) h0 h0 ?_ (Tm.cm _) rfl;rw[Xk];show (aF (b9 [] []) 200000 152 [.ptr 0 0,.str s] ⟨2,[.row (aQ st.aa),.row [x,y,.int .i64 st.aZ,.vec 1 0 st.aa.length 2 st.aa.length,.int .i64 st.next,.bool false]],2,2⟩).map _=_;generalize aQ st.aa=F at *;generalize st.aa.length=n at *;simp[ym,c152,mJ,x1,y1,w,lp,f3]
     |none=>
       rw[hf] at lp;rw[yV hf];have hn:(if s=[95] then st.aa else st.aa++[(s,(st.next:Int))])=st.aa++[(s,(st.next:Int))]:=if_neg hs;rw[hn];refine cd (n:=200000) hE aN aP 4 (by decide) h0 (by simp) ?_ (Tm.cm _) rfl;rw[Xk]
       show (aF (b9 [] []) 200000 152 [.ptr 0 0,.str s] ⟨2,[.row (aQ st.aa),.row [x,y,.int .i64 st.aZ,.vec 1 0 st.aa.length 2 st.aa.length,.int .i64 st.next,.bool false]],2,2⟩).map _=
        some (_,some (bp.row [x,y,.int .i64 st.aZ,.vec 4 0 (st.aa++[(s,(st.next:Int))]).length 2 (st.aa++[(s,(st.next:Int))]).length,.int .i64 ((st.next+1:Nat):Int),.bool false]),some (bp.row (aQ (st.aa++[(s,(st.next:Int))]))))
       rw[Er,List.length_append,List.length_cons,List.length_nil];have ht:(aQ st.aa).take (st.aa.length*2)=aQ st.aa:=List.take_of_length_le (by omega);generalize aQ st.aa=F at *;generalize st.aa.length=n at *;have hb3:(n*2<=F.length)=True:=eq_true (by omega);have hb4:((n+1)*2<=F.length)=False:=eq_false (by omega);have hb5:(n+1<=n)=False:=eq_false (by omega);simp[ym,c152,mJ,x1,y1,w,w2,lp,f3,hs,Qh,aT,hb1,A3,hb3,hb4,hb5,ht,eH]
  .cases hv
 .cases hv
noncomputable def ny:cr:=⟨112,λ
 |[.ptr 0 0,w],os=>(match pY os,tA w with|some R,some t=>some (.tuple [(bZ R.T t).1.aV,.bool (bZ R.T t).2],none)|_,_=>none)
 |_,_=>none⟩
theorem cV:ny.f=112:=(rfl)
theorem nq{x y:AV}{T:List bj}{L:List Tok}{st:St}(hx:ba x=some T)(hy:bx y=some L)(h:DC T L st)(t:Tok):
 ny.S [.ptr 0 0,.agg [.int .i64 t.au,.str t.aD,.int .i64 t.cF,.bool t.jq,.int .i64 t.aZ]] (gg x y st false)=some (.tuple [(bZ T t).1.aV,.bool (bZ T t).2],none):=by
 have e:tA (.agg [.int .i64 t.au,.str t.aD,.int .i64 t.cF,.bool t.jq,.int .i64 t.aZ])=some t:=rfl;simp only[ny,kE hx hy h,e]
theorem DD{T:List bj}{t:Tok}(h1:¬t.au=1)(h2:¬t.au=2)(h5:t.au=5->¬t.aD=[44]):bZ T t=(gX,false):=by
 unfold bZ dM fE;dsimp only;refine if_pos ?_;by_cases k:t.au=5
 .simp[h1,h2,k,h5 k]
 .simp[h1,h2,k]
theorem qV{T:List bj}{t:Tok}(h:t.au=1\/t.au=2\/(t.au=5/\t.aD=[44])):bZ T t=bd T t.aD false:=by
 unfold bZ dM fE;dsimp only;refine if_neg ?_;rcases h with h|h|⟨h,h2⟩
 .simp[h]
 .simp[h]
 .simp[h,h2]
theorem Gq(x:AV)(T:List bj)(hx:ba x=some T)(hT:T.length<1000000)(hg:ew T=true)(t:Tok)(y:AV)(a b:Int)(v:AV):
 (aF (b9 [iK] []) 6 112 [.ptr 0 0,t.aV] ⟨1,[.row [x,y,.int .i64 a,v,.int .i64 b,.bool false]],1,1⟩=some (.tuple [(bZ T t).1.aV,.bool (bZ T t).2],⟨1,[.row [x,y,.int .i64 a,v,.int .i64 b,.bool false]],1,1⟩))/\
 ∀F,(aF (b9 [iK] []) 6 112 [.ptr 0 0,t.aV] ⟨2,[.row F,.row [x,y,.int .i64 a,v,.int .i64 b,.bool false]],2,2⟩=some (.tuple [(bZ T t).1.aV,.bool (bZ T t).2],⟨2,[.row F,.row [x,y,.int .i64 a,v,.int .i64 b,.bool false]],2,2⟩)):=by
 have hl:=aR hx;have W8:t.aV=.agg [.int .i64 t.au,.str t.aD,.int .i64 t.cF,.bool t.jq,.int .i64 t.aZ]:=rfl;have fx:=λh n0 d=>hl.fr h n0 d
 have gm:=hl.aK;rw[W8];by_cases k1:t.au=1
 .rw[qV (.inl k1)];rcases uw hg hx hT t.aD true with⟨f1,f2⟩|⟨f1,i,f2,f3,f4,f5⟩
  .simp only[Bool.not_true] at f1;rw[si f1,f1];have ez:gX.aV=.agg [.str [],.str [],.int .i64 0]:=rfl;rw[ez];refine⟨?_,λF=>?_⟩
   .simp[iT,rI,bY,fx,gm,f2,k1]
   .simp[iT,rI,bY,fx,gm,f2,k1]
  .simp only[Bool.not_true] at f1 f4;rw[f1];subst f3;have i0:(0:Int)<=(i:Int):=by omega
   have i1:¬(i:Int)<0:=by omega
   simp only[bj.aV,bj.cells] at f4|-;generalize (T.map λo=>AV.agg [.str o.n,.str o.k,.int .i64 o.l])=U at *;refine⟨?_,λF=>?_⟩
   .simp[iT,rI,bY,fx,gm,f2,f4,i0,i1,k1]
   .simp[iT,rI,bY,fx,gm,f2,f4,i0,i1,k1]
 by_cases k2:t.au=2
 .rw[qV (.inr (.inl k2))];rcases uw hg hx hT t.aD true with⟨f1,f2⟩|⟨f1,i,f2,f3,f4,f5⟩
  .simp only[Bool.not_true] at f1;rw[si f1,f1];have ez:gX.aV=.agg [.str [],.str [],.int .i64 0]:=rfl;rw[ez];refine⟨?_,λF=>?_⟩
   .simp[iT,rI,bY,fx,gm,f2,k1,k2]
   .simp[iT,rI,bY,fx,gm,f2,k1,k2]
  .simp only[Bool.not_true] at f1 f4;rw[f1];subst f3;have i0:(0:Int)<=(i:Int):=by omega
   have i1:¬(i:Int)<0:=by omega
   simp only[bj.aV,bj.cells] at f4|-;generalize (T.map λo=>AV.agg [.str o.n,.str o.k,.int .i64 o.l])=U at *;refine⟨?_,λF=>?_⟩
   .simp[iT,rI,bY,fx,gm,f2,f4,i0,i1,k1,k2]
   .simp[iT,rI,bY,fx,gm,f2,f4,i0,i1,k1,k2]
 by_cases k5:t.au=5
 .by_cases c:t.aD=[44]
  .rw[qV (.inr (.inr ⟨k5,c⟩))];rw[c];rcases uw hg hx hT [44] true with⟨f1,f2⟩|⟨f1,i,f2,f3,f4,f5⟩
   .simp only[Bool.not_true] at f1;rw[si f1,f1];have ez:gX.aV=.agg [.str [],.str [],.int .i64 0]:=rfl;rw[ez];refine⟨?_,λF=>?_⟩
    .simp[iT,rI,bY,fx,gm,f2,k5,c]
    .simp[iT,rI,bY,fx,gm,f2,k5,c]
   .simp only[Bool.not_true] at f1 f4;rw[f1];subst f3;have i0:(0:Int)<=(i:Int):=by omega
    have i1:¬(i:Int)<0:=by omega
    simp only[bj.aV,bj.cells] at f4|-;generalize (T.map λo=>AV.agg [.str o.n,.str o.k,.int .i64 o.l])=U at *;refine⟨?_,λF=>?_⟩
    .simp[iT,rI,bY,fx,gm,f2,f4,i0,i1,k5,c]
    .simp[iT,rI,bY,fx,gm,f2,f4,i0,i1,k5,c]
  .rw[DD k1 k2 (λ_=>c)];have cb:(t.aD==[44])=false:=by simpa using c
   have ez:gX.aV=.agg [.str [],.str [],.int .i64 0]:=rfl;rw[ez];refine⟨?_,λF=>?_⟩
   .simp[iT,rI,bY,fx,gm,k5,c,cb]
   .simp[iT,rI,bY,fx,gm,k5,c,cb]
 .rw[DD k1 k2 (λh=>absurd h k5)];have ez:gX.aV=.agg [.str [],.str [],.int .i64 0]:=rfl;rw[ez];refine⟨?_,λF=>?_⟩
  .simp[iT,rI,bY,fx,gm,k1,k2,k5]
  .simp[iT,rI,bY,fx,gm,k1,k2,k5]
theorem FN:cC Tryz.prog cX ny:=λag os v r hv=>by
 unfold ny at hv;dsimp only at hv;split at hv
 .rename_i w os;split at hv
  .rename_i R t hR ht;cases hv;obtain⟨hx,hy,rfl,hc⟩:=jP hR;rw[cV,qP ht];have hE:cT Tryz.prog cX (b9 [iK] []):=dK (by simp[zx.lift]) (by simp);refine wO (n:=6) hE (aR hx) (aI hy) (λ_=>?_) (λ_=>?_) (by simp[bj.aV,bj.cells,AV.aK,AV.aw]) (by simp[Tok.aV,Tok.cells,AV.aK,AV.aw])
   .rw[(Gq _ _ hx hc.rc.tb hc.tJ t _ _ _ _).1];rfl
   .rw[(Gq _ _ hx hc.rc.tb hc.tJ t _ _ _ _).2];rfl
  .cases hv
 .cases hv
noncomputable def qO:cr:=⟨179,λ
 |[.ptr 0 0],os=>(match pY os with|some R=>some (.bool (iB R.T R.st),none)|none=>none)
 |_,_=>none⟩
theorem EI:qO.f=179:=(rfl)
section
variable {x y:AV}{T:List bj}{L:List Tok}{st:St}(hx:ba x=some T)(hy:bx y=some L)
include hx hy
theorem mc(h:DC T L st):qO.S [.ptr 0 0] (gg x y st false)=some (.bool (iB T st),none):=by simp only[qO,kE hx hy h]
theorem Kr(hc:DC T L st):
 (st.aa=[]->(aF (b9 [iK] [mr,ny]) 6 179 [.ptr 0 0] ⟨1,[.row [x,y,.int .i64 st.aZ,.aJ,.int .i64 st.next,.bool false]],1,1⟩).map (λp=>(p.1,p.2.get 0))=some (.bool (sb T (aM L st)),some (.row [x,y,.int .i64 st.aZ,.aJ,.int .i64 st.next,.bool false])))/\
 (st.aa≠[]->(aF (b9 [iK] [mr,ny]) 6 179 [.ptr 0 0] ⟨2,[.row (aQ st.aa),.row [x,y,.int .i64 st.aZ,.vec 1 0 st.aa.length 2 st.aa.length,.int .i64 st.next,.bool false]],2,2⟩).map (λp=>(p.1,p.2.get 0,p.2.get 1))=
  some (.bool (sb T (aM L st)),some (.row [x,y,.int .i64 st.aZ,.vec 1 0 st.aa.length 2 st.aa.length,.int .i64 st.next,.bool false]),some (.row (aQ st.aa)))):=by
 have aN:=aR hx;have aP:=aI hy;have q:=ee hx hy hc;have qb:=nq hx hy hc (aM L st);rw[bK] at q;have x1:=aN.aK;have y1:=aP.aK;have g1:=λc=>lK (c:=c) aN aP;have g2:=λc=>lQ (c:=c) aN aP;have g3:=λc=>lS (c:=c) aN aP;have g4:=λc=>lO (c:=c) aN aP;have g5:=λc=>lM (c:=c) aN aP;have g6:=λc=>lT (c:=c) aN aP
 have fx:=λh n0 d=>aN.fr h n0 d
 have f1:=db st.aa;have f2:=dc st.aa;have f3:=bf st.aa;unfold sb;by_cases k0:(aM L st).au=0
 .rw[if_pos (.inl k0)];rw[k0] at q;refine⟨λh0=>?_,λh0=>?_⟩
  .rw[aU h0] at q;simp[dX,kv,cM,cV,bY,q,x1,y1,g1,g2,g3,g4,g5,g6,-af,-aj,-ah]
  .rw[aS h0] at q;generalize aQ st.aa=F at *;generalize st.aa.length=n at *;simp[dX,kv,cM,cV,bY,q,x1,y1,g1,g2,g3,g4,g5,g6,-af,-aj,-ah,f1,f2,f3]
 by_cases k6:(aM L st).au=6
 .rw[if_pos (.inr k6)];rw[k6] at q;refine⟨λh0=>?_,λh0=>?_⟩
  .rw[aU h0] at q;simp[dX,kv,cM,cV,bY,q,x1,y1,g1,g2,g3,g4,g5,g6,-af,-aj,-ah]
  .rw[aS h0] at q;generalize aQ st.aa=F at *;generalize st.aa.length=n at *;simp[dX,kv,cM,cV,bY,q,x1,y1,g1,g2,g3,g4,g5,g6,-af,-aj,-ah,f1,f2,f3]
 rw[if_neg (by rintro (h|h);exact k0 h;exact k6 h)];by_cases k5:(aM L st).au=5
 .rw[if_pos k5];rw[k5] at q
  have fin:∀s,(aM L st).aD=s->∀e1 e2 e3:Bool,(s==[40])=e1->(s==[91])=e2->(s==[123])=e3->
   (st.aa=[]->(aF (b9 [iK] [mr,ny]) 6 179 [.ptr 0 0] ⟨1,[.row [x,y,.int .i64 st.aZ,.aJ,.int .i64 st.next,.bool false]],1,1⟩).map (λp=>(p.1,p.2.get 0))=some (.bool (decide (s=[40])||decide (s=[91])||decide (s=[123])),some (.row [x,y,.int .i64 st.aZ,.aJ,.int .i64 st.next,.bool false])))/\
  (st.aa≠[]->(aF (b9 [iK] [mr,ny]) 6 179 [.ptr 0 0] ⟨2,[.row (aQ st.aa),.row [x,y,.int .i64 st.aZ,.vec 1 0 st.aa.length 2 st.aa.length,.int .i64 st.next,.bool false]],2,2⟩).map (λp=>(p.1,p.2.get 0,p.2.get 1))=
   some (.bool (decide (s=[40])||decide (s=[91])||decide (s=[123])),some (.row [x,y,.int .i64 st.aZ,.vec 1 0 st.aa.length 2 st.aa.length,.int .i64 st.next,.bool false]),some (.row (aQ st.aa)))):=λs hs e1 e2 e3 h1 h2 h3=>by
   rw[hs] at q;clear qb
   cases e1 with
   |true=>
     have:s=[40]:=by simpa using h1
     subst this;refine⟨λh0=>?_,λh0=>?_⟩
     .rw[aU h0] at q;simp[dX,kv,cM,cV,bY,q,x1,y1,g1,g2,g3,g4,g5,g6,-af,-aj,-ah]
     .rw[aS h0] at q;generalize aQ st.aa=F at *;generalize st.aa.length=n at *;simp[dX,kv,cM,cV,bY,q,x1,y1,g1,g2,g3,g4,g5,g6,-af,-aj,-ah,f1,f2,f3]
   |false=>
     have n1:¬s=[40]:=by simpa using h1
     cases e2 with
     |true=>
       have:s=[91]:=by simpa using h2
       subst this;refine⟨λh0=>?_,λh0=>?_⟩
       .rw[aU h0] at q;simp[dX,kv,cM,cV,bY,q,x1,y1,g1,g2,g3,g4,g5,g6,-af,-aj,-ah]
       .rw[aS h0] at q;generalize aQ st.aa=F at *;generalize st.aa.length=n at *;simp[dX,kv,cM,cV,bY,q,x1,y1,g1,g2,g3,g4,g5,g6,-af,-aj,-ah,f1,f2,f3]
     |false=>
       have n2:¬s=[91]:=by simpa using h2
       have n3:(s==[123])=decide (s=[123]):=O9 _ _;refine⟨λh0=>?_,λh0=>?_⟩
       .rw[aU h0] at q;simp[dX,kv,cM,cV,bY,q,x1,y1,g1,g2,g3,g4,g5,g6,-af,-aj,-ah,h1,h2,n1,n2,n3]
       .rw[aS h0] at q;generalize aQ st.aa=F at *;generalize st.aa.length=n at *;simp[dX,kv,cM,cV,bY,q,x1,y1,g1,g2,g3,g4,g5,g6,-af,-aj,-ah,f1,f2,f3,h1,h2,n1,n2,n3]
  exact fin _ rfl _ _ _ rfl rfl rfl
 rw[if_neg k5];by_cases kn:(decide ((aM L st).au=1)||decide ((aM L st).au=2))=true
 .have kn':(aM L st).au=1\/(aM L st).au=2:=by simpa using kn
  rw[qV (kn'.elim .inl λh=>.inr (.inl h))] at qb;rw[kn];have qd:=uw hc.tJ hx hc.rc.tb (aM L st).aD false;simp only[Bool.not_false] at qd;rw[show (bd T (aM L st).aD false).1.aV=.agg [.str (bd T (aM L st).aD false).1.n,.str (bd T (aM L st).aD false).1.k,.int .i64 (bd T (aM L st).aD false).1.l] from rfl] at qb;generalize aM L st=t at *;generalize bd T t.aD false=I at *;obtain⟨⟨i1,i2,i3⟩,i4⟩:=I;dsimp only at qb|-;have kc:∀kk,t.au=kk->(kk=1\/kk=2)->(st.aa=[]->(aF (b9 [iK] [mr,ny]) 6 179 [.ptr 0 0] ⟨1,[.row [x,y,.int .i64 st.aZ,.aJ,.int .i64 st.next,.bool false]],1,1⟩).map (λp=>(p.1,p.2.get 0))=some (.bool (if (!true||t.jq)=true then true else !i4||(bd T t.aD true).2),some (.row [x,y,.int .i64 st.aZ,.aJ,.int .i64 st.next,.bool false])))/\
  (st.aa≠[]->(aF (b9 [iK] [mr,ny]) 6 179 [.ptr 0 0] ⟨2,[.row (aQ st.aa),.row [x,y,.int .i64 st.aZ,.vec 1 0 st.aa.length 2 st.aa.length,.int .i64 st.next,.bool false]],2,2⟩).map (λp=>(p.1,p.2.get 0,p.2.get 1))=
   some (.bool (if (!true||t.jq)=true then true else !i4||(bd T t.aD true).2),some (.row [x,y,.int .i64 st.aZ,.vec 1 0 st.aa.length 2 st.aa.length,.int .i64 st.next,.bool false]),some (.row (aQ st.aa)))):=λkk hk pC=>by
   rw[hk] at q qb
   cases ho:t.jq with
   |true=>
     rw[ho] at q qb;rcases pC with rfl|rfl
     .cases i4 with
      |true=>
        refine⟨λh0=>?_,λh0=>?_⟩
        .rw[aU h0] at q qb;simp[dX,kv,cM,cV,bY,q,x1,y1,g1,g2,g3,g4,g5,g6,-af,-aj,-ah,qb]
        .rw[aS h0] at q qb;generalize aQ st.aa=F at *;generalize st.aa.length=n at *;simp[dX,kv,cM,cV,bY,q,x1,y1,g1,g2,g3,g4,g5,g6,-af,-aj,-ah,f1,f2,f3,qb]
      |false=>
        refine⟨λh0=>?_,λh0=>?_⟩
        .rw[aU h0] at q qb;simp[dX,kv,cM,cV,bY,q,x1,y1,g1,g2,g3,g4,g5,g6,-af,-aj,-ah,qb]
        .rw[aS h0] at q qb;generalize aQ st.aa=F at *;generalize st.aa.length=n at *;simp[dX,kv,cM,cV,bY,q,x1,y1,g1,g2,g3,g4,g5,g6,-af,-aj,-ah,f1,f2,f3,qb]
     .cases i4 with
      |true=>
        refine⟨λh0=>?_,λh0=>?_⟩
        .rw[aU h0] at q qb;simp[dX,kv,cM,cV,bY,q,x1,y1,g1,g2,g3,g4,g5,g6,-af,-aj,-ah,qb]
        .rw[aS h0] at q qb;generalize aQ st.aa=F at *;generalize st.aa.length=n at *;simp[dX,kv,cM,cV,bY,q,x1,y1,g1,g2,g3,g4,g5,g6,-af,-aj,-ah,f1,f2,f3,qb]
      |false=>
        refine⟨λh0=>?_,λh0=>?_⟩
        .rw[aU h0] at q qb;simp[dX,kv,cM,cV,bY,q,x1,y1,g1,g2,g3,g4,g5,g6,-af,-aj,-ah,qb]
        .rw[aS h0] at q qb;generalize aQ st.aa=F at *;generalize st.aa.length=n at *;simp[dX,kv,cM,cV,bY,q,x1,y1,g1,g2,g3,g4,g5,g6,-af,-aj,-ah,f1,f2,f3,qb]
   |false=>
     rw[ho] at q qb
     cases i4 with
     |false=>
       clear qd;rcases pC with rfl|rfl
       .refine⟨λh0=>?_,λh0=>?_⟩
        .rw[aU h0] at q qb;simp[dX,kv,cM,cV,bY,q,x1,y1,g1,g2,g3,g4,g5,g6,-af,-aj,-ah,qb]
        .rw[aS h0] at q qb;generalize aQ st.aa=F at *;generalize st.aa.length=n at *;simp[dX,kv,cM,cV,bY,q,x1,y1,g1,g2,g3,g4,g5,g6,-af,-aj,-ah,f1,f2,f3,qb]
       .refine⟨λh0=>?_,λh0=>?_⟩
        .rw[aU h0] at q qb;simp[dX,kv,cM,cV,bY,q,x1,y1,g1,g2,g3,g4,g5,g6,-af,-aj,-ah,qb]
        .rw[aS h0] at q qb;generalize aQ st.aa=F at *;generalize st.aa.length=n at *;simp[dX,kv,cM,cV,bY,q,x1,y1,g1,g2,g3,g4,g5,g6,-af,-aj,-ah,f1,f2,f3,qb]
     |true=>
       rcases qd with⟨d1,d2⟩|⟨d1,i,d2,d3,d4,d5⟩
       .rw[d1];rcases pC with rfl|rfl
        .refine⟨λh0=>?_,λh0=>?_⟩
         .rw[aU h0] at q qb;simp[dX,kv,cM,cV,bY,q,x1,y1,g1,g2,g3,g4,g5,g6,-af,-aj,-ah,qb,d2,fx]
         .rw[aS h0] at q qb;generalize aQ st.aa=F at *;generalize st.aa.length=n at *;simp[dX,kv,cM,cV,bY,q,x1,y1,g1,g2,g3,g4,g5,g6,-af,-aj,-ah,f1,f2,f3,qb,d2,fx]
        .refine⟨λh0=>?_,λh0=>?_⟩
         .rw[aU h0] at q qb;simp[dX,kv,cM,cV,bY,q,x1,y1,g1,g2,g3,g4,g5,g6,-af,-aj,-ah,qb,d2,fx]
         .rw[aS h0] at q qb;generalize aQ st.aa=F at *;generalize st.aa.length=n at *;simp[dX,kv,cM,cV,bY,q,x1,y1,g1,g2,g3,g4,g5,g6,-af,-aj,-ah,f1,f2,f3,qb,d2,fx]
       .rw[d1];have i0:(0:Int)<=(i:Int):=by omega
        clear d3 d4;rcases pC with rfl|rfl
        .refine⟨λh0=>?_,λh0=>?_⟩
         .rw[aU h0] at q qb;simp[dX,kv,cM,cV,bY,q,x1,y1,g1,g2,g3,g4,g5,g6,-af,-aj,-ah,qb,d2,fx,i0]
         .rw[aS h0] at q qb;generalize aQ st.aa=F at *;generalize st.aa.length=n at *;simp[dX,kv,cM,cV,bY,q,x1,y1,g1,g2,g3,g4,g5,g6,-af,-aj,-ah,f1,f2,f3,qb,d2,fx,i0]
        .refine⟨λh0=>?_,λh0=>?_⟩
         .rw[aU h0] at q qb;simp[dX,kv,cM,cV,bY,q,x1,y1,g1,g2,g3,g4,g5,g6,-af,-aj,-ah,qb,d2,fx,i0]
         .rw[aS h0] at q qb;generalize aQ st.aa=F at *;generalize st.aa.length=n at *;simp[dX,kv,cM,cV,bY,q,x1,y1,g1,g2,g3,g4,g5,g6,-af,-aj,-ah,f1,f2,f3,qb,d2,fx,i0]
  exact kc _ rfl kn'
 .rw[Bool.not_eq_true] at kn;have k12:¬(aM L st).au=1/\¬(aM L st).au=2:=by simpa using kn
  obtain⟨k1,k2⟩:=k12;rw[kn];refine⟨λh0=>?_,λh0=>?_⟩
  .rw[aU h0] at q;simp[dX,kv,cM,cV,bY,q,x1,y1,g1,g2,g3,g4,g5,g6,-af,-aj,-ah,k0,k1,k2,k5,k6]
  .rw[aS h0] at q;generalize aQ st.aa=F at *;generalize st.aa.length=n at *;simp[dX,kv,cM,cV,bY,q,x1,y1,g1,g2,g3,g4,g5,g6,-af,-aj,-ah,f1,f2,f3,k0,k1,k2,k5,k6]
end
theorem KP:cC Tryz.prog cX qO:=λag os v r hv=>by
 unfold qO at hv;dsimp only at hv;split at hv
 .rename_i os;split at hv
  .rename_i R hR;cases hv;obtain⟨hx,hy,rfl,hc⟩:=jP hR;rw[EI,D8 hc.rc];have hE:cT Tryz.prog cX (b9 [iK] [mr,ny]):=dK (by simp[zx.lift]) (by simp[pj,FN]);obtain⟨r1,r2⟩:=Kr hx hy hc;exact wO (n:=6) hE (aR hx) (aI hy) r1 r2 rfl rfl
  .cases hv
 .cases hv
end
section
theorem DC.of{T:List bj}{L:List Tok}{a b:St}(h:DC T L a)(g:RC T L b):DC T L b:=⟨g,h.tJ⟩
theorem DC.ok{T:List bj}{L:List Tok}{a b:St}(h:DC T L a)(g:Ok a b):DC T L b:=h.of (h.rc.ok g).1
def cP(r:PR):Tm×Int:=if r.2.2 then (r.1,r.2.1) else (lh,0)
noncomputable def fb(N:Nat):cr:=⟨68,λ
 |[.ptr 0 0,.int .i64 n],os=>(match pY os with
   |some R=>if 0<=n/\R.st.aC.length<N then some (.tuple [(cP (ae R.T n R.st).1).1.aV,.int .i64 (cP (ae R.T n R.st).1).2],some (gj R.x R.y R.st.aa (ae R.T n R.st).2 (!(ae R.T n R.st).1.2.2))) else none
   |none=>none)
 |_,_=>none⟩
theorem jQ(N:Nat):(fb N).f=68:=(rfl)
theorem cE(N:Nat){x y:AV}{T:List bj}{L:List Tok}{st:St}(hx:ba x=some T)(hy:bx y=some L)(h:DC T L st)(n:Int)(h0:0<=n)(hn:st.aC.length<N):
 (fb N).S [.ptr 0 0,.int .i64 n] (gg x y st false)=some (.tuple [(cP (ae T n st).1).1.aV,.int .i64 (cP (ae T n st).1).2],some (gj x y st.aa (ae T n st).2 (!(ae T n st).1.2.2))):=by
 simp only[fb,kE hx hy h];rw[if_pos ⟨h0,hn⟩]
def er(rec:Int->St->PR×St):Nat->List Tm->Bool->St->(List Tm×Bool)×St
 |0,aB,_,st=>((aB,false),st)
 |M+1,aB,ok,st=>
   if ok then
    (if (ax [44] st).1 then er rec M (aB++[(cP (rec 999 (ax [44] st).2).1).1]) (rec 999 (ax [44] st).2).1.2.2 (rec 999 (ax [44] st).2).2
     else ((aB,true),st))
   else ((aB,false),st)
section
variable {rec:Int->St->PR×St}{M:Nat}{aB:List Tm}{st:St}
theorem nJ:er rec (M+1) aB false st=((aB,false),st):=by unfold er;exact if_neg (by simp)
theorem lJ(h:(ax [44] st).1=false):er rec (M+1) aB true st=((aB,true),st):=by unfold er;rw[if_pos rfl,h];exact if_neg (by simp)
theorem nI(h:(ax [44] st).1=true):er rec (M+1) aB true st=er rec M (aB++[(cP (rec 999 (ax [44] st).2).1).1]) (rec 999 (ax [44] st).2).1.2.2 (rec 999 (ax [44] st).2).2:=by
 conv=>lhs;unfold er
 rw[if_pos rfl,h];exact if_pos rfl
end
theorem Eo{rec:Int->St->PR×St}(H:uV rec):∀(M:Nat) (aB:List Tm) (st:St),st.aC.length<M->
 (er rec M (aB++[(cP (rec 999 st).1).1]) (rec 999 st).1.2.2 (rec 999 st).2).1.2=(bQ rec M aB st).1.2/\
 (er rec M (aB++[(cP (rec 999 st).1).1]) (rec 999 st).1.2.2 (rec 999 st).2).2=(bQ rec M aB st).2/\
 ((bQ rec M aB st).1.2=true->(er rec M (aB++[(cP (rec 999 st).1).1]) (rec 999 st).1.2.2 (rec 999 st).2).1.1=(bQ rec M aB st).1.1)
 |0,_,_,h=>by omega
 |M+1,aB,st,h=>by
   cases bV:(rec 999 st).1.2.2 with
   |false=>rw[oZ bV,nJ];exact⟨rfl,rfl,λh=>by cases h⟩
   |true=>
     have et:(cP (rec 999 st).1).1=(rec 999 st).1.1:=by unfold cP;rw[bV];rfl
     cases hb:(ax [44] (rec 999 st).2).1 with
     |false=>rw[kJ bV hb,lJ hb,et];exact⟨rfl,rfl,λ_=>rfl⟩
     |true=>rw[mg bV hb,nI hb,et];have p1:=(H.ok 999 st bV).pos;have p2:=(dQ hb).pos;exact Eo H M _ _ (by omega)
theorem four{W:List AV}(h:W.length=4):∃a b c d,W=[a,b,c,d]:=by
 match W,h with
 |[a,b,c,d],_=>exact⟨a,b,c,d,rfl⟩
noncomputable def E2(N:Nat):List cr:=[tZ,fb N]
def HL(x y:AV)(W:List AV)(aB:List Tm)(ok:Bool)(st:St)(md:Nat):Option (Ex×List AV×ai):=some (.exit 0,FM 32 [(5,.vec 2 0 aB.length 4 aB.length)],⟨3,[.row (aG aB),.row W,.row [x,y,.int .i64 st.aZ,.aJ,.int .i64 st.next,.bool (!ok)]],1,md⟩)
def DV(x y:AV)(W:List AV)(aB:List Tm)(ok:Bool)(st:St)(md:Nat):Option (Ex×List AV×ai):=some (.exit 0,FM 32 [(5,.vec 3 0 aB.length 4 aB.length)],⟨4,[.row (aG aB),.dead,.row W,.row [x,y,.int .i64 st.aZ,.aJ,.int .i64 st.next,.bool (!ok)]],1,md⟩)
def AA(x y:AV)(W:List AV)(aB:List Tm)(ok:Bool)(st:St)(md:Nat):Option (Ex×List AV×ai):=some (.exit 0,FM 32 [(5,.vec 3 0 aB.length 4 aB.length)],⟨5,[.row (aQ st.aa),.row (aG aB),.dead,.row W,.row [x,y,.int .i64 st.aZ,.vec 4 0 st.aa.length 2 st.aa.length,.int .i64 st.next,.bool (!ok)]],0,md⟩)
def H2(x y:AV)(W:List AV)(aB:List Tm)(ok:Bool)(st:St)(md:Nat):Option (Ex×List AV×ai):=some (.exit 0,FM 32 [(5,.vec 3 0 aB.length 4 aB.length)],⟨4,[.row (aG aB),.row W,.row (aQ st.aa),.row [x,y,.int .i64 st.aZ,.vec 1 0 st.aa.length 2 st.aa.length,.int .i64 st.next,.bool (!ok)]],0,md⟩)
def Dj(x y:AV)(W:List AV)(aB:List Tm)(ok:Bool)(st:St)(md:Nat):Option (Ex×List AV×ai):=some (.exit 0,FM 32 [(5,.vec 4 0 aB.length 4 aB.length)],⟨6,[.row (aQ st.aa),.row (aG aB),.dead,.row W,.dead,.row [x,y,.int .i64 st.aZ,.vec 5 0 st.aa.length 2 st.aa.length,.int .i64 st.next,.bool (!ok)]],0,md⟩)
def IB(x y:AV)(W:List AV)(aB:List Tm)(ok:Bool)(st:St)(md:Nat):Option (Ex×List AV×ai):=some (.exit 0,FM 32 [(5,.vec 4 0 aB.length 4 aB.length)],⟨5,[.row (aG aB),.row W,.row (aQ st.aa),.dead,.row [x,y,.int .i64 st.aZ,.vec 2 0 st.aa.length 2 st.aa.length,.int .i64 st.next,.bool (!ok)]],0,md⟩)
def DQ(x y:AV)(W:List AV)(aB:List Tm)(ok:Bool)(st:St)(md:Nat):Option (Ex×List AV×ai):=some (.exit 0,FM 32 [(5,.vec 5 0 aB.length 4 aB.length)],⟨7,[.row (aQ st.aa),.row (aG aB),.dead,.row W,.dead,.dead,.row [x,y,.int .i64 st.aZ,.vec 6 0 st.aa.length 2 st.aa.length,.int .i64 st.next,.bool (!ok)]],0,md⟩)
theorem s0{rec:Int->St->PR×St}(H:uV rec):∀{M:Nat} {aB:List Tm} {ok:Bool} {st:St},st.aa≠[]->(er rec M aB ok st).2.aa≠[]
 |0,_,_,_,h=>h
 |M+1,aB,false,st,h=>by rw[nJ];exact h
 |M+1,aB,true,st,h=>by
   cases hb:(ax [44] st).1 with
   |false=>rw[lJ hb];exact h
   |true=>rw[nI hb];exact s0 H ((H.lv 999 _).aa (by rw[(b8 [44] st).1];exact h))
attribute [local simp] fX fU fY fR eO eN fP fS fT eQ eR fQ lK lQ lS lO lM lT fc fe Laid.aK db dc bf lP gE E2 ub jQ aT
theorem Ie(n N:Nat){x y:AV}{T:List bj}{L:List Tok}(hx:ba x=some T)(hy:bx y=some L):∀(M:Nat) (W:List AV) (aB:List Tm) (ok:Bool) (st:St) (m md:Nat),W.length=4->AV.aw W=0->(ok=true->DC T L st)->st.aa≠[]->aB≠[]->aB.length+st.aC.length<=200000->st.aC.length<N->st.aC.length<M->M<=m->
 ∃W' cq,gu 3 1 (bL (aH (aF (b9 [] (E2 N)) (n+1)) (n+1) lP) gE 3 m (iy (.ptr 0 0) (.ptr 1 0) (.vec 3 0 aB.length 4 aB.length)) ⟨5,[.row (aQ st.aa),.row (aG aB),.dead,.row W,.row [x,y,.int .i64 st.aZ,.vec 4 0 st.aa.length 2 st.aa.length,.int .i64 st.next,.bool (!ok)]],0,md⟩)=
   AA x y W' (er (ae T) M aB ok st).1.1 (er (ae T) M aB ok st).1.2 (er (ae T) M aB ok st).2 cq
 |0,_,_,_,_,_,_,_,_,_,_,_,_,_,h,_=>by omega
 |_+1,_,_,_,_,0,_,_,_,_,_,_,_,_,_,h=>by omega
 |M+1,W,aB,ok,st,m+1,md,hW,hWr,pE,h0,fy,LO,hN,hM,hm=>by
   have aN:=aR hx;have aP:=aI hy;rw[ak];have H:=a6 T;have hf:=bh aB;obtain⟨w0,w1,w2,w3,rfl⟩:=four hW;simp only[AV.aw,Nat.max_eq_zero_iff] at hWr
   cases ok with
   |false=>rw[nJ];simp only[AA];generalize aG aB=A at *;exact⟨[w0,w1,w2,w3],0,by simp[-af,-aj,-ah,-az,-ck,hf,hWr,aN,aP]⟩
   |true=>
     have hc:=pE rfl;have qt:=ef hx hy hc [44];have cO:=b8 [44] st;rw[aS h0,aS (by rw[cO.1];exact h0),cO.1,cO.2] at qt
     cases hb:(ax [44] st).1 with
     |false=>have hs:=fF hb;rw[hb,hs] at qt;rw[lJ hb];simp only[AA];generalize aG aB=A at *;exact⟨[w0,w1,w2,w3],0,by simp[-af,-aj,-ah,-az,-ck,hf,hWr,qt,aN,aP]⟩
     |true=>
       rw[hb] at qt;have nj:=dQ hb;have c2:=hc.ok nj;have ET:=nj.pos;have q:=cE N hx hy c2 999 (by decide) (by omega);have dF:=H.lv 999 (ax [44] st).2;have jT:=dF.len;have BD:(ae T 999 (ax [44] st).2).1.2.2=true->DC T L (ae T 999 (ax [44] st).2).2:=λh=>c2.ok (H.ok 999 _ h)
       have lV:st.aa≠[]->(ae T 999 (ax [44] st).2).2.aa≠[]:=λh=>dF.aa (by rw[cO.1];exact h)
       rw[nI hb];rw[an] at q;have tr:=ay (cP (ae T 999 (ax [44] st).2).1).1;have tc:=br (cP (ae T 999 (ax [44] st).2).1).1;have h8:(aB.length+1)*56<=140737488355328:=by omega
       have h9:aB.length+1<9223372036854775808:=by omega
       have gG:(aG aB).take (aB.length*4)=aG aB:=by rw[List.take_of_length_le];rw[bP];exact Nat.le_refl _
       have iH:=bP aB;have SL:0<aB.length:=List.length_pos_iff.2 fy;have gr:=bh (aB++[(cP (ae T 999 (ax [44] st).2).1).1]);rw[<-bB] at gr;have h1:=lV h0;rw[aS (by rw[cO.1];exact h0),cO.1,dv h0 h1,cO.2] at q;obtain⟨W',cq,ih⟩:=Ie n N hx hy M [.int .i64 (cP (ae T 999 (ax [44] st).2).1).1.au,.int .i64 (cP (ae T 999 (ax [44] st).2).1).1.cF,.str (cP (ae T 999 (ax [44] st).2).1).1.bH,(cP (ae T 999 (ax [44] st).2).1).1.ca] (aB++[(cP (ae T 999 (ax [44] st).2).1).1]) (ae T 999 (ax [44] st).2).1.2.2 (ae T 999 (ax [44] st).2).2 m 0 rfl (by simp[AV.aw,AV.aK,tr]) BD h1 (by simp) (by simp;omega) (by omega) (by omega) (by omega);rw[<-bB,List.length_append,List.length_cons,List.length_nil] at ih;refine⟨W',cq,Eq.trans ?_ ih⟩;generalize (cP (ae T 999 (ax [44] st).2).1).2=tl at *;generalize (cP (ae T 999 (ax [44] st).2).1).1=t at *;generalize (ae T 999 (ax [44] st).2).1.2.2=tv at *;generalize (ae T 999 (ax [44] st).2).2=s1 at *;generalize (ax [44] st).2=s2 at *;generalize aG aB=A at *;generalize aB.length=al at *;simp[-af,-aj,-ah,-az,-ck,hf,hWr,q,qt,hW,tr,tc,h8,h9,gG,iH,gr,SL,aN,aP]
theorem P0(n N:Nat){x y:AV}{T:List bj}{L:List Tok}(hx:ba x=some T)(hy:bx y=some L):∀(M:Nat) (W:List AV) (aB:List Tm) (ok:Bool) (st:St) (m md:Nat),W.length=4->AV.aw W=0->(ok=true->DC T L st)->st.aa=[]->aB≠[]->aB.length+st.aC.length<=200000->st.aC.length<N->st.aC.length<M->M<=m->
 ∃W' cq,gu 3 1 (bL (aH (aF (b9 [] (E2 N)) (n+1)) (n+1) lP) gE 3 m (iy (.ptr 0 0) (.ptr 1 0) (.vec 3 0 aB.length 4 aB.length)) ⟨4,[.row (aG aB),.dead,.row W,.row [x,y,.int .i64 st.aZ,.aJ,.int .i64 st.next,.bool (!ok)]],3,md⟩)=
   (if (er (ae T) M aB ok st).2.aa=[] then DV x y W' (er (ae T) M aB ok st).1.1 (er (ae T) M aB ok st).1.2 (er (ae T) M aB ok st).2 cq else AA x y W' (er (ae T) M aB ok st).1.1 (er (ae T) M aB ok st).1.2 (er (ae T) M aB ok st).2 cq)
 |0,_,_,_,_,_,_,_,_,_,_,_,_,_,h,_=>by omega
 |_+1,_,_,_,_,0,_,_,_,_,_,_,_,_,_,h=>by omega
 |M+1,W,aB,ok,st,m+1,md,hW,hWr,pE,h0,fy,LO,hN,hM,hm=>by
   have aN:=aR hx;have aP:=aI hy;rw[ak];have H:=a6 T;have hf:=bh aB;obtain⟨w0,w1,w2,w3,rfl⟩:=four hW;simp only[AV.aw,Nat.max_eq_zero_iff] at hWr
   cases ok with
   |false=>rw[nJ];simp only[if_pos h0];simp only[DV];generalize aG aB=A at *;exact⟨[w0,w1,w2,w3],md,by simp[-af,-aj,-ah,-az,-ck,hf,hWr,aN,aP]⟩
   |true=>
     have hc:=pE rfl;have qt:=ef hx hy hc [44];have cO:=b8 [44] st;rw[aU h0,aU (by rw[cO.1];exact h0),cO.2] at qt
     cases hb:(ax [44] st).1 with
     |false=>have hs:=fF hb;rw[hb,hs] at qt;rw[lJ hb];simp only[if_pos h0];simp only[DV];generalize aG aB=A at *;exact⟨[w0,w1,w2,w3],(min md 0),by simp[-af,-aj,-ah,-az,-ck,hf,hWr,qt,aN,aP]⟩
     |true=>
       rw[hb] at qt;have nj:=dQ hb;have c2:=hc.ok nj;have ET:=nj.pos;have q:=cE N hx hy c2 999 (by decide) (by omega);have dF:=H.lv 999 (ax [44] st).2;have jT:=dF.len;have BD:(ae T 999 (ax [44] st).2).1.2.2=true->DC T L (ae T 999 (ax [44] st).2).2:=λh=>c2.ok (H.ok 999 _ h)
       have lV:st.aa≠[]->(ae T 999 (ax [44] st).2).2.aa≠[]:=λh=>dF.aa (by rw[cO.1];exact h)
       rw[nI hb];rw[an] at q;have tr:=ay (cP (ae T 999 (ax [44] st).2).1).1;have tc:=br (cP (ae T 999 (ax [44] st).2).1).1;have h8:(aB.length+1)*56<=140737488355328:=by omega
       have h9:aB.length+1<9223372036854775808:=by omega
       have gG:(aG aB).take (aB.length*4)=aG aB:=by rw[List.take_of_length_le];rw[bP];exact Nat.le_refl _
       have iH:=bP aB;have SL:0<aB.length:=List.length_pos_iff.2 fy;have gr:=bh (aB++[(cP (ae T 999 (ax [44] st).2).1).1]);rw[<-bB] at gr;by_cases h1:(ae T 999 (ax [44] st).2).2.aa=[];rw[aU (by rw[cO.1];exact h0),cO.1,h0,cI h1,cO.2] at q;obtain⟨W',cq,ih⟩:=P0 n N hx hy M [.int .i64 (cP (ae T 999 (ax [44] st).2).1).1.au,.int .i64 (cP (ae T 999 (ax [44] st).2).1).1.cF,.str (cP (ae T 999 (ax [44] st).2).1).1.bH,(cP (ae T 999 (ax [44] st).2).1).1.ca] (aB++[(cP (ae T 999 (ax [44] st).2).1).1]) (ae T 999 (ax [44] st).2).1.2.2 (ae T 999 (ax [44] st).2).2 m 0 rfl (by simp[AV.aw,AV.aK,tr]) BD h1 (by simp) (by simp;omega) (by omega) (by omega) (by omega);rw[<-bB,List.length_append,List.length_cons,List.length_nil] at ih
       rotate_left
       rw[aU (by rw[cO.1];exact h0),cO.1,h0,ch h1,cO.2] at q;obtain⟨W',cq,ih⟩:=Ie n N hx hy M [.int .i64 (cP (ae T 999 (ax [44] st).2).1).1.au,.int .i64 (cP (ae T 999 (ax [44] st).2).1).1.cF,.str (cP (ae T 999 (ax [44] st).2).1).1.bH,(cP (ae T 999 (ax [44] st).2).1).1.ca] (aB++[(cP (ae T 999 (ax [44] st).2).1).1]) (ae T 999 (ax [44] st).2).1.2.2 (ae T 999 (ax [44] st).2).2 m 0 rfl (by simp[AV.aw,AV.aK,tr]) BD h1 (by simp) (by simp;omega) (by omega) (by omega) (by omega);rw[<-bB,List.length_append,List.length_cons,List.length_nil] at ih;have I1:¬(er (ae T) M (aB++[(cP (ae T 999 (ax [44] st).2).1).1]) (ae T 999 (ax [44] st).2).1.2.2 (ae T 999 (ax [44] st).2).2).2.aa=[]:=s0 H h1;simp only[if_neg I1]
       rotate_left
       all_goals
        refine⟨W',cq,Eq.trans ?_ ih⟩;generalize (cP (ae T 999 (ax [44] st).2).1).2=tl at *;generalize (cP (ae T 999 (ax [44] st).2).1).1=t at *;generalize (ae T 999 (ax [44] st).2).1.2.2=tv at *;generalize (ae T 999 (ax [44] st).2).2=s1 at *;generalize (ax [44] st).2=s2 at *;generalize aG aB=A at *;generalize aB.length=al at *;simp[-af,-aj,-ah,-az,-ck,hf,hWr,q,qt,hW,tr,tc,h8,h9,gG,iH,gr,SL,aN,aP]
theorem X8(n N:Nat){x y:AV}{T:List bj}{L:List Tok}(hx:ba x=some T)(hy:bx y=some L):∀(M:Nat) (W:List AV) (aB:List Tm) (ok:Bool) (st:St) (m md:Nat),W.length=4->AV.aw W=0->(ok=true->DC T L st)->st.aa=[]->aB≠[]->aB.length+st.aC.length<=200000->st.aC.length<N->st.aC.length<M->M<=m->
 (∃cq,gu 3 1 (bL (aH (aF (b9 [] (E2 N)) (n+1)) (n+1) lP) gE 3 m (iy (.ptr 0 0) (.ptr 1 0) (.vec 2 0 aB.length 4 aB.length)) ⟨3,[.row (aG aB),.row W,.row [x,y,.int .i64 st.aZ,.aJ,.int .i64 st.next,.bool (!ok)]],3,md⟩)=
  HL x y W aB ok st cq/\(er (ae T) M aB ok st)=((aB,ok),st))\/∃W' cq,gu 3 1 (bL (aH (aF (b9 [] (E2 N)) (n+1)) (n+1) lP) gE 3 m (iy (.ptr 0 0) (.ptr 1 0) (.vec 2 0 aB.length 4 aB.length)) ⟨3,[.row (aG aB),.row W,.row [x,y,.int .i64 st.aZ,.aJ,.int .i64 st.next,.bool (!ok)]],3,md⟩)=
  (if (er (ae T) M aB ok st).2.aa=[] then DV x y W' (er (ae T) M aB ok st).1.1 (er (ae T) M aB ok st).1.2 (er (ae T) M aB ok st).2 cq else AA x y W' (er (ae T) M aB ok st).1.1 (er (ae T) M aB ok st).1.2 (er (ae T) M aB ok st).2 cq)
 |0,_,_,_,_,_,_,_,_,_,_,_,_,_,h,_=>by omega
 |_+1,_,_,_,_,0,_,_,_,_,_,_,_,_,_,h=>by omega
 |M+1,W,aB,ok,st,m+1,md,hW,hWr,pE,h0,fy,LO,hN,hM,hm=>by
   have aN:=aR hx;have aP:=aI hy;rw[ak];have H:=a6 T;have hf:=bh aB;obtain⟨w0,w1,w2,w3,rfl⟩:=four hW;simp only[AV.aw,Nat.max_eq_zero_iff] at hWr
   cases ok with
   |false=>rw[nJ];left;simp only[HL];generalize aG aB=A at *;exact⟨md,by simp[-af,-aj,-ah,-az,-ck,hf,hWr,aN,aP],trivial⟩
   |true=>
     have hc:=pE rfl;have qt:=ef hx hy hc [44];have cO:=b8 [44] st;rw[aU h0,aU (by rw[cO.1];exact h0),cO.2] at qt
     cases hb:(ax [44] st).1 with
     |false=>have hs:=fF hb;rw[hb,hs] at qt;rw[lJ hb];left;simp only[HL];generalize aG aB=A at *;exact⟨(min md 0),by simp[-af,-aj,-ah,-az,-ck,hf,hWr,qt,aN,aP],trivial⟩
     |true=>
       rw[hb] at qt;have nj:=dQ hb;have c2:=hc.ok nj;have ET:=nj.pos;have q:=cE N hx hy c2 999 (by decide) (by omega);have dF:=H.lv 999 (ax [44] st).2;have jT:=dF.len;have BD:(ae T 999 (ax [44] st).2).1.2.2=true->DC T L (ae T 999 (ax [44] st).2).2:=λh=>c2.ok (H.ok 999 _ h)
       have lV:st.aa≠[]->(ae T 999 (ax [44] st).2).2.aa≠[]:=λh=>dF.aa (by rw[cO.1];exact h)
       rw[nI hb];rw[an] at q;have tr:=ay (cP (ae T 999 (ax [44] st).2).1).1;have tc:=br (cP (ae T 999 (ax [44] st).2).1).1;have h8:(aB.length+1)*56<=140737488355328:=by omega
       have h9:aB.length+1<9223372036854775808:=by omega
       have gG:(aG aB).take (aB.length*4)=aG aB:=by rw[List.take_of_length_le];rw[bP];exact Nat.le_refl _
       have iH:=bP aB;have SL:0<aB.length:=List.length_pos_iff.2 fy;have gr:=bh (aB++[(cP (ae T 999 (ax [44] st).2).1).1]);rw[<-bB] at gr;by_cases h1:(ae T 999 (ax [44] st).2).2.aa=[];rw[aU (by rw[cO.1];exact h0),cO.1,h0,cI h1,cO.2] at q;obtain⟨W',cq,ih⟩:=P0 n N hx hy M [.int .i64 (cP (ae T 999 (ax [44] st).2).1).1.au,.int .i64 (cP (ae T 999 (ax [44] st).2).1).1.cF,.str (cP (ae T 999 (ax [44] st).2).1).1.bH,(cP (ae T 999 (ax [44] st).2).1).1.ca] (aB++[(cP (ae T 999 (ax [44] st).2).1).1]) (ae T 999 (ax [44] st).2).1.2.2 (ae T 999 (ax [44] st).2).2 m 0 rfl (by simp[AV.aw,AV.aK,tr]) BD h1 (by simp) (by simp;omega) (by omega) (by omega) (by omega);rw[<-bB,List.length_append,List.length_cons,List.length_nil] at ih
       rotate_left
       rw[aU (by rw[cO.1];exact h0),cO.1,h0,ch h1,cO.2] at q;obtain⟨W',cq,ih⟩:=Ie n N hx hy M [.int .i64 (cP (ae T 999 (ax [44] st).2).1).1.au,.int .i64 (cP (ae T 999 (ax [44] st).2).1).1.cF,.str (cP (ae T 999 (ax [44] st).2).1).1.bH,(cP (ae T 999 (ax [44] st).2).1).1.ca] (aB++[(cP (ae T 999 (ax [44] st).2).1).1]) (ae T 999 (ax [44] st).2).1.2.2 (ae T 999 (ax [44] st).2).2 m 0 rfl (by simp[AV.aw,AV.aK,tr]) BD h1 (by simp) (by simp;omega) (by omega) (by omega) (by omega);rw[<-bB,List.length_append,List.length_cons,List.length_nil] at ih;have I1:¬(er (ae T) M (aB++[(cP (ae T 999 (ax [44] st).2).1).1]) (ae T 999 (ax [44] st).2).1.2.2 (ae T 999 (ax [44] st).2).2).2.aa=[]:=s0 H h1;simp only[if_neg I1]
       rotate_left
       all_goals
        right;refine⟨W',cq,Eq.trans ?_ ih⟩;generalize (cP (ae T 999 (ax [44] st).2).1).2=tl at *;generalize (cP (ae T 999 (ax [44] st).2).1).1=t at *;generalize (ae T 999 (ax [44] st).2).1.2.2=tv at *;generalize (ae T 999 (ax [44] st).2).2=s1 at *;generalize (ax [44] st).2=s2 at *;generalize aG aB=A at *;generalize aB.length=al at *;simp[-af,-aj,-ah,-az,-ck,hf,hWr,q,qt,hW,tr,tc,h8,h9,gG,iH,gr,SL,aN,aP]
theorem Pu(n N:Nat){x y:AV}{T:List bj}{L:List Tok}(hx:ba x=some T)(hy:bx y=some L):∀(M:Nat) (W:List AV) (aB:List Tm) (ok:Bool) (st:St) (m md:Nat),W.length=4->AV.aw W=0->(ok=true->DC T L st)->st.aa≠[]->aB≠[]->aB.length+st.aC.length<=200000->st.aC.length<N->st.aC.length<M->M<=m->
 ∃W' cq,gu 4 0 (bL (aH (aF (b9 [] (E2 N)) (n+1)) (n+1) lP) gE 4 m (iy (.ptr 0 0) (.ptr 2 0) (.vec 4 0 aB.length 4 aB.length)) ⟨6,[.row (aQ st.aa),.row (aG aB),.dead,.row W,.dead,.row [x,y,.int .i64 st.aZ,.vec 5 0 st.aa.length 2 st.aa.length,.int .i64 st.next,.bool (!ok)]],0,md⟩)=
   Dj x y W' (er (ae T) M aB ok st).1.1 (er (ae T) M aB ok st).1.2 (er (ae T) M aB ok st).2 cq
 |0,_,_,_,_,_,_,_,_,_,_,_,_,_,h,_=>by omega
 |_+1,_,_,_,_,0,_,_,_,_,_,_,_,_,_,h=>by omega
 |M+1,W,aB,ok,st,m+1,md,hW,hWr,pE,h0,fy,LO,hN,hM,hm=>by
   have aN:=aR hx;have aP:=aI hy;rw[ak];have H:=a6 T;have hf:=bh aB;obtain⟨w0,w1,w2,w3,rfl⟩:=four hW;simp only[AV.aw,Nat.max_eq_zero_iff] at hWr
   cases ok with
   |false=>rw[nJ];simp only[Dj];generalize aG aB=A at *;exact⟨[w0,w1,w2,w3],0,by simp[-af,-aj,-ah,-az,-ck,hf,hWr,aN,aP]⟩
   |true=>
     have hc:=pE rfl;have qt:=ef hx hy hc [44];have cO:=b8 [44] st;rw[aS h0,aS (by rw[cO.1];exact h0),cO.1,cO.2] at qt
     cases hb:(ax [44] st).1 with
     |false=>have hs:=fF hb;rw[hb,hs] at qt;rw[lJ hb];simp only[Dj];generalize aG aB=A at *;exact⟨[w0,w1,w2,w3],0,by simp[-af,-aj,-ah,-az,-ck,hf,hWr,qt,aN,aP]⟩
     |true=>
       rw[hb] at qt;have nj:=dQ hb;have c2:=hc.ok nj;have ET:=nj.pos;have q:=cE N hx hy c2 999 (by decide) (by omega);have dF:=H.lv 999 (ax [44] st).2;have jT:=dF.len;have BD:(ae T 999 (ax [44] st).2).1.2.2=true->DC T L (ae T 999 (ax [44] st).2).2:=λh=>c2.ok (H.ok 999 _ h)
       have lV:st.aa≠[]->(ae T 999 (ax [44] st).2).2.aa≠[]:=λh=>dF.aa (by rw[cO.1];exact h)
       rw[nI hb];rw[an] at q;have tr:=ay (cP (ae T 999 (ax [44] st).2).1).1;have tc:=br (cP (ae T 999 (ax [44] st).2).1).1;have h8:(aB.length+1)*56<=140737488355328:=by omega
       have h9:aB.length+1<9223372036854775808:=by omega
       have gG:(aG aB).take (aB.length*4)=aG aB:=by rw[List.take_of_length_le];rw[bP];exact Nat.le_refl _
       have iH:=bP aB;have SL:0<aB.length:=List.length_pos_iff.2 fy;have gr:=bh (aB++[(cP (ae T 999 (ax [44] st).2).1).1]);rw[<-bB] at gr;have h1:=lV h0;rw[aS (by rw[cO.1];exact h0),cO.1,dv h0 h1,cO.2] at q;obtain⟨W',cq,ih⟩:=Pu n N hx hy M [.int .i64 (cP (ae T 999 (ax [44] st).2).1).1.au,.int .i64 (cP (ae T 999 (ax [44] st).2).1).1.cF,.str (cP (ae T 999 (ax [44] st).2).1).1.bH,(cP (ae T 999 (ax [44] st).2).1).1.ca] (aB++[(cP (ae T 999 (ax [44] st).2).1).1]) (ae T 999 (ax [44] st).2).1.2.2 (ae T 999 (ax [44] st).2).2 m 0 rfl (by simp[AV.aw,AV.aK,tr]) BD h1 (by simp) (by simp;omega) (by omega) (by omega) (by omega);rw[<-bB,List.length_append,List.length_cons,List.length_nil] at ih;refine⟨W',cq,Eq.trans ?_ ih⟩;generalize (cP (ae T 999 (ax [44] st).2).1).2=tl at *;generalize (cP (ae T 999 (ax [44] st).2).1).1=t at *;generalize (ae T 999 (ax [44] st).2).1.2.2=tv at *;generalize (ae T 999 (ax [44] st).2).2=s1 at *;generalize (ax [44] st).2=s2 at *;generalize aG aB=A at *;generalize aB.length=al at *;simp[-af,-aj,-ah,-az,-ck,hf,hWr,q,qt,hW,tr,tc,h8,h9,gG,iH,gr,SL,aN,aP]
theorem Zw(n N:Nat){x y:AV}{T:List bj}{L:List Tok}(hx:ba x=some T)(hy:bx y=some L):∀(M:Nat) (W:List AV) (aB:List Tm) (ok:Bool) (st:St) (m md:Nat),W.length=4->AV.aw W=0->(ok=true->DC T L st)->st.aa≠[]->aB≠[]->aB.length+st.aC.length<=200000->st.aC.length<N->st.aC.length<M->M<=m->
 (∃cq,gu 4 0 (bL (aH (aF (b9 [] (E2 N)) (n+1)) (n+1) lP) gE 4 m (iy (.ptr 0 0) (.ptr 2 0) (.vec 3 0 aB.length 4 aB.length)) ⟨4,[.row (aG aB),.row W,.row (aQ st.aa),.row [x,y,.int .i64 st.aZ,.vec 1 0 st.aa.length 2 st.aa.length,.int .i64 st.next,.bool (!ok)]],4,md⟩)=
  H2 x y W aB ok st cq/\(er (ae T) M aB ok st)=((aB,ok),st))\/∃W' cq,gu 4 0 (bL (aH (aF (b9 [] (E2 N)) (n+1)) (n+1) lP) gE 4 m (iy (.ptr 0 0) (.ptr 2 0) (.vec 3 0 aB.length 4 aB.length)) ⟨4,[.row (aG aB),.row W,.row (aQ st.aa),.row [x,y,.int .i64 st.aZ,.vec 1 0 st.aa.length 2 st.aa.length,.int .i64 st.next,.bool (!ok)]],4,md⟩)=
  Dj x y W' (er (ae T) M aB ok st).1.1 (er (ae T) M aB ok st).1.2 (er (ae T) M aB ok st).2 cq
 |0,_,_,_,_,_,_,_,_,_,_,_,_,_,h,_=>by omega
 |_+1,_,_,_,_,0,_,_,_,_,_,_,_,_,_,h=>by omega
 |M+1,W,aB,ok,st,m+1,md,hW,hWr,pE,h0,fy,LO,hN,hM,hm=>by
   have aN:=aR hx;have aP:=aI hy;rw[ak];have H:=a6 T;have hf:=bh aB;obtain⟨w0,w1,w2,w3,rfl⟩:=four hW;simp only[AV.aw,Nat.max_eq_zero_iff] at hWr
   cases ok with
   |false=>rw[nJ];left;simp only[H2];generalize aG aB=A at *;exact⟨md,by simp[-af,-aj,-ah,-az,-ck,hf,hWr,aN,aP],trivial⟩
   |true=>
     have hc:=pE rfl;have qt:=ef hx hy hc [44];have cO:=b8 [44] st;rw[aS h0,aS (by rw[cO.1];exact h0),cO.1,cO.2] at qt
     cases hb:(ax [44] st).1 with
     |false=>have hs:=fF hb;rw[hb,hs] at qt;rw[lJ hb];left;simp only[H2];generalize aG aB=A at *;exact⟨(min md 0),by simp[-af,-aj,-ah,-az,-ck,hf,hWr,qt,aN,aP],trivial⟩
     |true=>
       rw[hb] at qt;have nj:=dQ hb;have c2:=hc.ok nj;have ET:=nj.pos;have q:=cE N hx hy c2 999 (by decide) (by omega);have dF:=H.lv 999 (ax [44] st).2;have jT:=dF.len;have BD:(ae T 999 (ax [44] st).2).1.2.2=true->DC T L (ae T 999 (ax [44] st).2).2:=λh=>c2.ok (H.ok 999 _ h)
       have lV:st.aa≠[]->(ae T 999 (ax [44] st).2).2.aa≠[]:=λh=>dF.aa (by rw[cO.1];exact h)
       rw[nI hb];rw[an] at q;have tr:=ay (cP (ae T 999 (ax [44] st).2).1).1;have tc:=br (cP (ae T 999 (ax [44] st).2).1).1;have h8:(aB.length+1)*56<=140737488355328:=by omega
       have h9:aB.length+1<9223372036854775808:=by omega
       have gG:(aG aB).take (aB.length*4)=aG aB:=by rw[List.take_of_length_le];rw[bP];exact Nat.le_refl _
       have iH:=bP aB;have SL:0<aB.length:=List.length_pos_iff.2 fy;have gr:=bh (aB++[(cP (ae T 999 (ax [44] st).2).1).1]);rw[<-bB] at gr;have h1:=lV h0;rw[aS (by rw[cO.1];exact h0),cO.1,dv h0 h1,cO.2] at q;obtain⟨W',cq,ih⟩:=Pu n N hx hy M [.int .i64 (cP (ae T 999 (ax [44] st).2).1).1.au,.int .i64 (cP (ae T 999 (ax [44] st).2).1).1.cF,.str (cP (ae T 999 (ax [44] st).2).1).1.bH,(cP (ae T 999 (ax [44] st).2).1).1.ca] (aB++[(cP (ae T 999 (ax [44] st).2).1).1]) (ae T 999 (ax [44] st).2).1.2.2 (ae T 999 (ax [44] st).2).2 m 0 rfl (by simp[AV.aw,AV.aK,tr]) BD h1 (by simp) (by simp;omega) (by omega) (by omega) (by omega);rw[<-bB,List.length_append,List.length_cons,List.length_nil] at ih;right;refine⟨W',cq,Eq.trans ?_ ih⟩;generalize (cP (ae T 999 (ax [44] st).2).1).2=tl at *;generalize (cP (ae T 999 (ax [44] st).2).1).1=t at *;generalize (ae T 999 (ax [44] st).2).1.2.2=tv at *;generalize (ae T 999 (ax [44] st).2).2=s1 at *;generalize (ax [44] st).2=s2 at *;generalize aG aB=A at *;generalize aB.length=al at *;simp[-af,-aj,-ah,-az,-ck,hf,hWr,q,qt,hW,tr,tc,h8,h9,gG,iH,gr,SL,aN,aP]
theorem OZ(n N:Nat){x y:AV}{T:List bj}{L:List Tok}(hx:ba x=some T)(hy:bx y=some L):∀(M:Nat) (W:List AV) (aB:List Tm) (ok:Bool) (st:St) (m md:Nat),W.length=4->AV.aw W=0->(ok=true->DC T L st)->st.aa≠[]->aB≠[]->aB.length+st.aC.length<=200000->st.aC.length<N->st.aC.length<M->M<=m->
 ∃W' cq,gu 5 0 (bL (aH (aF (b9 [] (E2 N)) (n+1)) (n+1) lP) gE 5 m (iy (.ptr 0 0) (.ptr 3 0) (.vec 5 0 aB.length 4 aB.length)) ⟨7,[.row (aQ st.aa),.row (aG aB),.dead,.row W,.dead,.dead,.row [x,y,.int .i64 st.aZ,.vec 6 0 st.aa.length 2 st.aa.length,.int .i64 st.next,.bool (!ok)]],0,md⟩)=
   DQ x y W' (er (ae T) M aB ok st).1.1 (er (ae T) M aB ok st).1.2 (er (ae T) M aB ok st).2 cq
 |0,_,_,_,_,_,_,_,_,_,_,_,_,_,h,_=>by omega
 |_+1,_,_,_,_,0,_,_,_,_,_,_,_,_,_,h=>by omega
 |M+1,W,aB,ok,st,m+1,md,hW,hWr,pE,h0,fy,LO,hN,hM,hm=>by
   have aN:=aR hx;have aP:=aI hy;rw[ak];have H:=a6 T;have hf:=bh aB;obtain⟨w0,w1,w2,w3,rfl⟩:=four hW;simp only[AV.aw,Nat.max_eq_zero_iff] at hWr
   cases ok with
   |false=>rw[nJ];simp only[DQ];generalize aG aB=A at *;exact⟨[w0,w1,w2,w3],0,by simp[-af,-aj,-ah,-az,-ck,hf,hWr,aN,aP]⟩
   |true=>
     have hc:=pE rfl;have qt:=ef hx hy hc [44];have cO:=b8 [44] st;rw[aS h0,aS (by rw[cO.1];exact h0),cO.1,cO.2] at qt
     cases hb:(ax [44] st).1 with
     |false=>have hs:=fF hb;rw[hb,hs] at qt;rw[lJ hb];simp only[DQ];generalize aG aB=A at *;exact⟨[w0,w1,w2,w3],0,by simp[-af,-aj,-ah,-az,-ck,hf,hWr,qt,aN,aP]⟩
     |true=>
       rw[hb] at qt;have nj:=dQ hb;have c2:=hc.ok nj;have ET:=nj.pos;have q:=cE N hx hy c2 999 (by decide) (by omega);have dF:=H.lv 999 (ax [44] st).2;have jT:=dF.len;have BD:(ae T 999 (ax [44] st).2).1.2.2=true->DC T L (ae T 999 (ax [44] st).2).2:=λh=>c2.ok (H.ok 999 _ h)
       have lV:st.aa≠[]->(ae T 999 (ax [44] st).2).2.aa≠[]:=λh=>dF.aa (by rw[cO.1];exact h)
       rw[nI hb];rw[an] at q;have tr:=ay (cP (ae T 999 (ax [44] st).2).1).1;have tc:=br (cP (ae T 999 (ax [44] st).2).1).1;have h8:(aB.length+1)*56<=140737488355328:=by omega
       have h9:aB.length+1<9223372036854775808:=by omega
       have gG:(aG aB).take (aB.length*4)=aG aB:=by rw[List.take_of_length_le];rw[bP];exact Nat.le_refl _
       have iH:=bP aB;have SL:0<aB.length:=List.length_pos_iff.2 fy;have gr:=bh (aB++[(cP (ae T 999 (ax [44] st).2).1).1]);rw[<-bB] at gr;have h1:=lV h0;rw[aS (by rw[cO.1];exact h0),cO.1,dv h0 h1,cO.2] at q;obtain⟨W',cq,ih⟩:=OZ n N hx hy M [.int .i64 (cP (ae T 999 (ax [44] st).2).1).1.au,.int .i64 (cP (ae T 999 (ax [44] st).2).1).1.cF,.str (cP (ae T 999 (ax [44] st).2).1).1.bH,(cP (ae T 999 (ax [44] st).2).1).1.ca] (aB++[(cP (ae T 999 (ax [44] st).2).1).1]) (ae T 999 (ax [44] st).2).1.2.2 (ae T 999 (ax [44] st).2).2 m 0 rfl (by simp[AV.aw,AV.aK,tr]) BD h1 (by simp) (by simp;omega) (by omega) (by omega) (by omega);rw[<-bB,List.length_append,List.length_cons,List.length_nil] at ih;refine⟨W',cq,Eq.trans ?_ ih⟩;generalize (cP (ae T 999 (ax [44] st).2).1).2=tl at *;generalize (cP (ae T 999 (ax [44] st).2).1).1=t at *;generalize (ae T 999 (ax [44] st).2).1.2.2=tv at *;generalize (ae T 999 (ax [44] st).2).2=s1 at *;generalize (ax [44] st).2=s2 at *;generalize aG aB=A at *;generalize aB.length=al at *;simp[-af,-aj,-ah,-az,-ck,hf,hWr,q,qt,hW,tr,tc,h8,h9,gG,iH,gr,SL,aN,aP]
theorem YF(n N:Nat){x y:AV}{T:List bj}{L:List Tok}(hx:ba x=some T)(hy:bx y=some L):∀(M:Nat) (W:List AV) (aB:List Tm) (ok:Bool) (st:St) (m md:Nat),W.length=4->AV.aw W=0->(ok=true->DC T L st)->st.aa≠[]->aB≠[]->aB.length+st.aC.length<=200000->st.aC.length<N->st.aC.length<M->M<=m->
 (∃cq,gu 5 0 (bL (aH (aF (b9 [] (E2 N)) (n+1)) (n+1) lP) gE 5 m (iy (.ptr 0 0) (.ptr 3 0) (.vec 4 0 aB.length 4 aB.length)) ⟨5,[.row (aG aB),.row W,.row (aQ st.aa),.dead,.row [x,y,.int .i64 st.aZ,.vec 2 0 st.aa.length 2 st.aa.length,.int .i64 st.next,.bool (!ok)]],5,md⟩)=
  IB x y W aB ok st cq/\(er (ae T) M aB ok st)=((aB,ok),st))\/∃W' cq,gu 5 0 (bL (aH (aF (b9 [] (E2 N)) (n+1)) (n+1) lP) gE 5 m (iy (.ptr 0 0) (.ptr 3 0) (.vec 4 0 aB.length 4 aB.length)) ⟨5,[.row (aG aB),.row W,.row (aQ st.aa),.dead,.row [x,y,.int .i64 st.aZ,.vec 2 0 st.aa.length 2 st.aa.length,.int .i64 st.next,.bool (!ok)]],5,md⟩)=
  DQ x y W' (er (ae T) M aB ok st).1.1 (er (ae T) M aB ok st).1.2 (er (ae T) M aB ok st).2 cq
 |0,_,_,_,_,_,_,_,_,_,_,_,_,_,h,_=>by omega
 |_+1,_,_,_,_,0,_,_,_,_,_,_,_,_,_,h=>by omega
 |M+1,W,aB,ok,st,m+1,md,hW,hWr,pE,h0,fy,LO,hN,hM,hm=>by
   have aN:=aR hx;have aP:=aI hy;rw[ak];have H:=a6 T;have hf:=bh aB;obtain⟨w0,w1,w2,w3,rfl⟩:=four hW;simp only[AV.aw,Nat.max_eq_zero_iff] at hWr
   cases ok with
   |false=>rw[nJ];left;simp only[IB];generalize aG aB=A at *;exact⟨md,by simp[-af,-aj,-ah,-az,-ck,hf,hWr,aN,aP],trivial⟩
   |true=>
     have hc:=pE rfl;have qt:=ef hx hy hc [44];have cO:=b8 [44] st;rw[aS h0,aS (by rw[cO.1];exact h0),cO.1,cO.2] at qt
     cases hb:(ax [44] st).1 with
     |false=>have hs:=fF hb;rw[hb,hs] at qt;rw[lJ hb];left;simp only[IB];generalize aG aB=A at *;exact⟨(min md 0),by simp[-af,-aj,-ah,-az,-ck,hf,hWr,qt,aN,aP],trivial⟩
     |true=>
       rw[hb] at qt;have nj:=dQ hb;have c2:=hc.ok nj;have ET:=nj.pos;have q:=cE N hx hy c2 999 (by decide) (by omega);have dF:=H.lv 999 (ax [44] st).2;have jT:=dF.len;have BD:(ae T 999 (ax [44] st).2).1.2.2=true->DC T L (ae T 999 (ax [44] st).2).2:=λh=>c2.ok (H.ok 999 _ h)
       have lV:st.aa≠[]->(ae T 999 (ax [44] st).2).2.aa≠[]:=λh=>dF.aa (by rw[cO.1];exact h)
       rw[nI hb];rw[an] at q;have tr:=ay (cP (ae T 999 (ax [44] st).2).1).1;have tc:=br (cP (ae T 999 (ax [44] st).2).1).1;have h8:(aB.length+1)*56<=140737488355328:=by omega
       have h9:aB.length+1<9223372036854775808:=by omega
       have gG:(aG aB).take (aB.length*4)=aG aB:=by rw[List.take_of_length_le];rw[bP];exact Nat.le_refl _
       have iH:=bP aB;have SL:0<aB.length:=List.length_pos_iff.2 fy;have gr:=bh (aB++[(cP (ae T 999 (ax [44] st).2).1).1]);rw[<-bB] at gr;have h1:=lV h0;rw[aS (by rw[cO.1];exact h0),cO.1,dv h0 h1,cO.2] at q;obtain⟨W',cq,ih⟩:=OZ n N hx hy M [.int .i64 (cP (ae T 999 (ax [44] st).2).1).1.au,.int .i64 (cP (ae T 999 (ax [44] st).2).1).1.cF,.str (cP (ae T 999 (ax [44] st).2).1).1.bH,(cP (ae T 999 (ax [44] st).2).1).1.ca] (aB++[(cP (ae T 999 (ax [44] st).2).1).1]) (ae T 999 (ax [44] st).2).1.2.2 (ae T 999 (ax [44] st).2).2 m 0 rfl (by simp[AV.aw,AV.aK,tr]) BD h1 (by simp) (by simp;omega) (by omega) (by omega) (by omega);rw[<-bB,List.length_append,List.length_cons,List.length_nil] at ih;right;refine⟨W',cq,Eq.trans ?_ ih⟩;generalize (cP (ae T 999 (ax [44] st).2).1).2=tl at *;generalize (cP (ae T 999 (ax [44] st).2).1).1=t at *;generalize (ae T 999 (ax [44] st).2).1.2.2=tv at *;generalize (ae T 999 (ax [44] st).2).2=s1 at *;generalize (ax [44] st).2=s2 at *;generalize aG aB=A at *;generalize aB.length=al at *;simp[-af,-aj,-ah,-az,-ck,hf,hWr,q,qt,hW,tr,tc,h8,h9,gG,iH,gr,SL,aN,aP]
end
section
def cS(T:List bj)(st:St):(List Tm×Bool)×St:=er (ae T) (st.aC.length+1) [(cP (ae T 999 st).1).1] (ae T 999 st).1.2.2 (ae T 999 st).2
theorem gN(T:List bj)(st:St):(cS T st).1.2=(ar T st).1.2/\(cS T st).2=(ar T st).2/\((ar T st).1.2=true->(cS T st).1.1=(ar T st).1.1):=Eo (a6 T) (st.aC.length+1) [] st (Nat.lt_succ_self _)
theorem IE{rec:Int->St->PR×St}:∀(M:Nat) (aB:List Tm) (ok:Bool) (st:St),aB≠[]->(er rec M aB ok st).1.1≠[]/\(er rec M aB ok st).1.1.length<=aB.length+M
 |0,aB,_,_,h=>⟨h,by simp[er]⟩
 |M+1,aB,false,st,h=>by rw[nJ];exact⟨h,by simp⟩
 |M+1,aB,true,st,h=>by
   cases hb:(ax [44] st).1 with
   |false=>rw[lJ hb];exact⟨h,by simp⟩
   |true=>rw[nI hb];have:=IE (rec:=rec) M (aB++[(cP (rec 999 (ax [44] st).2).1).1]) (rec 999 (ax [44] st).2).1.2.2 (rec 999 (ax [44] st).2).2 (by simp);simp only[List.length_append,List.length_cons,List.length_nil] at this;exact⟨this.1,by omega⟩
noncomputable def rK(N:Nat):cr:=⟨154,λ
 |[.ptr 0 0],os=>(match pY os with
   |some R=>if R.st.aC.length<N then some (.sl ((cS R.T R.st).1.1.map Tm.aV),some (gj R.x R.y R.st.aa (cS R.T R.st).2 (!(cS R.T R.st).1.2))) else none
   |none=>none)
 |_,_=>none⟩
theorem Ak(N:Nat):(rK N).f=154:=(rfl)
theorem jx(N:Nat){x y:AV}{T:List bj}{L:List Tok}{st:St}(hx:ba x=some T)(hy:bx y=some L)(h:DC T L st)(hn:st.aC.length<N):
 (rK N).S [.ptr 0 0] (gg x y st false)=some (.sl ((cS T st).1.1.map Tm.aV),some (gj x y st.aa (cS T st).2 (!(cS T st).1.2))):=by
 simp only[rK,kE hx hy h];rw[if_pos hn]
attribute [local simp] fX fU fY fR eO eN fP fS fT eQ eR fQ lK lQ lS lO lM lT fc fe Laid.aK db dc bf Zk c154 gE E2 ub jQ aT
theorem Sp(N:Nat){x y:AV}{T:List bj}{L:List Tok}{st:St}(hx:ba x=some T)(hy:bx y=some L)(hc:DC T L st)(hN:st.aC.length<N)(hE:cT Tryz.prog cX (b9 [] (E2 N))):
 dA Tryz.prog cX 154 [.ptr 0 0] (gg x y st false) (.sl ((cS T st).1.1.map Tm.aV)) (some (gj x y st.aa (cS T st).2 (!(cS T st).1.2))):=by
 have aN:=aR hx;have aP:=aI hy;have qm:st.aC.length<=100000:=by rw[hc.rc.aC,List.length_drop,eZ];have:=hc.rc.lb;omega
 have H:=a6 T;have q:=cE N hx hy hc 999 (by decide) hN;have dF:=H.lv 999 st;have jT:=dF.len;have BD:(ae T 999 st).1.2.2=true->DC T L (ae T 999 st).2:=λh=>hc.ok (H.ok 999 _ h)
 have lV:st.aa≠[]->(ae T 999 st).2.aa≠[]:=dF.aa;have hd:=(IE (rec:=ae T) (st.aC.length+1) [(cP (ae T 999 st).1).1] (ae T 999 st).1.2.2 (ae T 999 st).2 (by simp)).1;have I1:(ae T 999 st).2.aa≠[]->(er (ae T) (st.aC.length+1) [(cP (ae T 999 st).1).1] (ae T 999 st).1.2.2 (ae T 999 st).2).2.aa≠[]:=s0 H;unfold cS;rw[an] at q;have tr:=ay (cP (ae T 999 st).1).1;have tc:=br (cP (ae T 999 st).1).1;have lA:=X8 199998 N hx hy (st.aC.length+1) [.int .i64 (cP (ae T 999 st).1).1.au,.int .i64 (cP (ae T 999 st).1).1.cF,.str (cP (ae T 999 st).1).1.bH,(cP (ae T 999 st).1).1.ca] [(cP (ae T 999 st).1).1] (ae T 999 st).1.2.2 (ae T 999 st).2 199999 0 rfl (by simp[AV.aw,AV.aK,tr]) BD;have lB:=Zw 199998 N hx hy (st.aC.length+1) [.int .i64 (cP (ae T 999 st).1).1.au,.int .i64 (cP (ae T 999 st).1).1.cF,.str (cP (ae T 999 st).1).1.bH,(cP (ae T 999 st).1).1.ca] [(cP (ae T 999 st).1).1] (ae T 999 st).1.2.2 (ae T 999 st).2 199999 0 rfl (by simp[AV.aw,AV.aK,tr]) BD;have lC:=YF 199998 N hx hy (st.aC.length+1) [.int .i64 (cP (ae T 999 st).1).1.au,.int .i64 (cP (ae T 999 st).1).1.cF,.str (cP (ae T 999 st).1).1.bH,(cP (ae T 999 st).1).1.ca] [(cP (ae T 999 st).1).1] (ae T 999 st).1.2.2 (ae T 999 st).2 199999 0 rfl (by simp[AV.aw,AV.aK,tr]) BD;have vZ:∀t:Tm,aG [t]=[.int .i64 t.au,.int .i64 t.cF,.str t.bH,t.ca]:=λt=>rfl
 generalize (cP (ae T 999 st).1).2=tl at *;generalize (cP (ae T 999 st).1).1=t at *;generalize (ae T 999 st).1.2.2=ok at *;generalize (ae T 999 st).2=s1 at *;generalize er (ae T) (st.aC.length+1) [t] ok s1=D at *;obtain⟨⟨l,okk⟩,s2⟩:=D;dsimp only at hd I1 lA lB lC|-;have hr:=bF l;by_cases h0:st.aa=[]
 .rw[aU h0,h0] at q;by_cases h1:s1.aa=[]
  .rw[cI h1] at q;rcases lA h1 (by simp) (by simp;omega) (by omega) (by omega) (by omega) with⟨cq,lp,eq⟩|⟨W',cq,lp⟩
   .simp only[Prod.mk.injEq] at eq;obtain⟨⟨rfl,rfl⟩,rfl⟩:=eq;simp only[HL,gE,iy,E2,vZ,List.length_singleton] at lp;simp only[List.map_cons,List.map_nil,an] at hr|-;refine cp (n:=200000) hE aN aP h0 h1 ?_ (by simp[AV.aK,hr]) rfl;simp[q,lp,tr,tc,hr,bc,-af,-aj,-ah,-az,-ck,aN,aP]
   .by_cases h2:s2.aa=[];rw[if_pos h2] at lp;simp only[DV,gE,iy,E2,vZ,List.length_singleton] at lp;have fk:∀(V0 V1:List AV) (wl md d:Nat),jF ⟨4,[.row (aG l),.dead,.row V1,.row V0],wl,md⟩ 1 (d+2) (.vec 3 0 l.length 4 l.length)=some (.sl (l.map Tm.aV),[3]):=λV0 V1 wl md d=>sA hd (by omega) rfl
    refine cp (n:=200000) hE aN aP h0 h2 ?_ (by simp[AV.aK,hr]) rfl
    rotate_left
    rw[if_neg h2] at lp;simp only[AA,gE,iy,E2,vZ,List.length_singleton] at lp;have fk:∀(V0 V1 V3:List AV) (wl md d:Nat),jF ⟨5,[.row V3,.row (aG l),.dead,.row V1,.row V0],wl,md⟩ 1 (d+2) (.vec 3 0 l.length 4 l.length)=some (.sl (l.map Tm.aV),[3]):=λV0 V1 V3 wl md d=>sA hd (by omega) rfl
    refine dh (n:=200000) hE aN aP 4 (by decide) h0 h2 ?_ (by simp[AV.aK,hr]) rfl
    rotate_left
    all_goals
     generalize l.map Tm.aV=U at *;generalize aG l=A at *;generalize l.length=k at *;simp[q,lp,fk,hr,tr,tc,vZ,-iA,-af,-aj,-ah,-az,-ck,aN,aP]
  .rw[ch h1] at q;have h2:=I1 h1;rcases lB h1 (by simp) (by simp;omega) (by omega) (by omega) (by omega) with⟨cq,lp,eq⟩|⟨W',cq,lp⟩
   .simp only[Prod.mk.injEq] at eq;obtain⟨⟨rfl,rfl⟩,rfl⟩:=eq;simp only[H2,gE,iy,E2,vZ,List.length_singleton] at lp;simp only[List.map_cons,List.map_nil,an] at hr|-;refine dh (n:=200000) hE aN aP 1 (by decide) h0 h1 ?_ (by simp[AV.aK,hr]) rfl;simp[q,lp,tr,tc,hr,bc,-af,-aj,-ah,-az,-ck,aN,aP]
   .simp only[Dj,gE,iy,E2,vZ,List.length_singleton] at lp;have fk:∀(V0 V2 V4:List AV) (wl md d:Nat),jF ⟨6,[.row V4,.row (aG l),.dead,.row V2,.dead,.row V0],wl,md⟩ 1 (d+2) (.vec 4 0 l.length 4 l.length)=some (.sl (l.map Tm.aV),[4]):=λV0 V2 V4 wl md d=>sA hd (by omega) rfl
    refine dh (n:=200000) hE aN aP 5 (by decide) h0 h2 ?_ (by simp[AV.aK,hr]) rfl;generalize l.map Tm.aV=U at *;generalize aG l=A at *;generalize l.length=k at *;simp[q,lp,fk,hr,tr,tc,vZ,-iA,-af,-aj,-ah,-az,-ck,aN,aP]
 .have h1:=lV h0;rw[aS h0,dv h0 h1] at q;have h2:=I1 h1;rcases lC h1 (by simp) (by simp;omega) (by omega) (by omega) (by omega) with⟨cq,lp,eq⟩|⟨W',cq,lp⟩
  .simp only[Prod.mk.injEq] at eq;obtain⟨⟨rfl,rfl⟩,rfl⟩:=eq;simp only[IB,gE,iy,E2,vZ,List.length_singleton] at lp;simp only[List.map_cons,List.map_nil,an] at hr|-;refine cd (n:=200000) hE aN aP 2 (by decide) h0 h1 ?_ (by simp[AV.aK,hr]) rfl;simp[q,lp,tr,tc,hr,bc,-af,-aj,-ah,-az,-ck,aN,aP]
  .simp only[DQ,gE,iy,E2,vZ,List.length_singleton] at lp;have fk:∀(V0 V2 V5:List AV) (wl md d:Nat),jF ⟨7,[.row V5,.row (aG l),.dead,.row V2,.dead,.dead,.row V0],wl,md⟩ 2 (d+2) (.vec 5 0 l.length 4 l.length)=some (.sl (l.map Tm.aV),[5]):=λV0 V2 V5 wl md d=>sA hd (by omega) rfl
   refine cd (n:=200000) hE aN aP 6 (by decide) h0 h2 ?_ (by simp[AV.aK,hr]) rfl;generalize l.map Tm.aV=U at *;generalize aG l=A at *;generalize l.length=k at *;simp[q,lp,fk,hr,tr,tc,vZ,-iA,-af,-aj,-ah,-az,-ck,aN,aP]
theorem C8(N:Nat)(hN:cC Tryz.prog cX (fb N)):cC Tryz.prog cX (rK N):=λag os v r hv=>by
 unfold rK at hv;dsimp only at hv;split at hv
 .rename_i os;split at hv
  .rename_i R hR;split at hv
   .rename_i hn;cases hv;obtain⟨hx,hy,rfl,h⟩:=jP hR;rw[Ak];exact Sp N hx hy h hn (dK (by simp) (by simp[E2,hN,zI]))
   .cases hv
  .cases hv
 .cases hv
end
end Go.Proofs.YtjmeonoabiliiaaGreatDoor
