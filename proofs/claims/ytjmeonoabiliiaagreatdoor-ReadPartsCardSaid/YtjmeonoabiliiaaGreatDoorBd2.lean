import Derived.Test.YtjmeonoabiliiaaGreatDoorAt
import Derived.Test.YtjmeonoabiliiaaGreatDoorBd1
import Derived.Test.YtjmeonoabiliiaaGreatDoorArg
set_option linter.unusedVariables false
set_option linter.unusedSimpArgs false
set_option linter.unusedSectionVars false
set_option maxHeartbeats 16000000
set_option maxRecDepth 100000

namespace Go.Proofs.YtjmeonoabiliiaaGreatDoor
open Go Sz
def gw (l:List UInt8):List AV:=l.map fun c=>.int .u8 c.toNat
theorem Dk (l:List UInt8):(gw l).length=l.length:=by simp[gw]
theorem kb (l:List UInt8) (c:UInt8):gw (l++[c])=gw l++[.int .u8 c.toNat]:=by simp[gw]
theorem oZ:∀l:List UInt8,AV.aq (gw l)=0
 | []=>rfl
 | c::r=>by
   have:=oZ r;unfold gw at this ⊢;simp[AV.aq,AV.refs,this]
theorem zf:∀l:List UInt8,bytesOf (gw l)=some l
 | []=>rfl
 | c::r=>by
   have:=zf r;unfold gw at this ⊢;simp[bytesOf,this]
theorem E6 (d:UInt8):(∀b,xT d=some b→∃i:Nat,kl d.toNat [110,116,92,39]=(i:Int)∧([10,9,92,39]:List UInt8)[i]? =some b)∧(xT d=none→kl d.toNat [110,116,92,39]=-1):=by
 have nb:∀a:Nat,a≠d.toNat→Nat.beq a d.toNat=false:=fun a h=>by
  cases hb:Nat.beq a d.toNat with
  | false=>rfl
  | true=>exact absurd (Nat.eq_of_beq_eq_true hb) h
 have yb:∀a:Nat,a=d.toNat→Nat.beq a d.toNat=true:=fun a h=>by rw[h];exact Nat.beq_refl _
 have t1:(110:UInt8).toNat=110:=rfl;have t2:(116:UInt8).toNat=116:=rfl;have t3:(92:UInt8).toNat=92:=rfl;have t4:(39:UInt8).toNat=39:=rfl;unfold xT;by_cases h1:d.toNat=110
 ·rw[if_pos h1];refine⟨fun b e=>⟨0,?_,by cases e;rfl⟩,fun e=>by cases e⟩;simp[kl,t1,yb 110 h1.symm]
 rw[if_neg h1];by_cases h2:d.toNat=116
 ·rw[if_pos h2];refine⟨fun b e=>⟨1,?_,by cases e;rfl⟩,fun e=>by cases e⟩;simp[kl,t1,t2,nb 110 (Ne.symm h1),yb 116 h2.symm]
 rw[if_neg h2];by_cases h3:d.toNat=92
 ·rw[if_pos h3];refine⟨fun b e=>⟨2,?_,by cases e;rfl⟩,fun e=>by cases e⟩;simp[kl,t1,t2,t3,nb 110 (Ne.symm h1),nb 116 (Ne.symm h2),yb 92 h3.symm]
 rw[if_neg h3];by_cases h4:d.toNat=39
 ·rw[if_pos h4];refine⟨fun b e=>⟨3,?_,by cases e;rfl⟩,fun e=>by cases e⟩;simp[kl,t1,t2,t3,t4,nb 110 (Ne.symm h1),nb 116 (Ne.symm h2),nb 92 (Ne.symm h3),yb 39 h4.symm]
 rw[if_neg h4];refine⟨fun b e=>(by cases e),fun _=>?_⟩;simp[kl,t1,t2,t3,t4,nb 110 (Ne.symm h1),nb 116 (Ne.symm h2),nb 92 (Ne.symm h3),nb 39 (Ne.symm h4)];rfl
theorem Cw:kl 0 [110,116,92,39]=-1:=by decide
def fx (k:Int) (t:List UInt8) (n:Int):List AV:=[.int .i64 k,.str t,.int .i64 n,.bool false,.int .i64 0]
def Sd (q:Option (List UInt8)×Nat) (q0:Nat) (s:List UInt8) (R:Option (Ex×List AV×aa)):Prop:=
 ∃md',(∃t,q.1=some t∧R=some (.ret,FM 119 [(2,.ptr 1 0),(3,.int .i64 0)],⟨2,[.row (fx 2 t 0),.row [.str s,.int .i64 (q0+q.2:Nat)]],1,md'⟩))∨
   (q.1=none∧R=some (.ret,FM 119 [(2,.ptr 1 0),(3,.int .i64 2)],⟨2,[.row (fx 0 [] 0),.row [.str s,.int .i64 (q0+q.2:Nat)]],1,md'⟩))∨
   (q.1=none∧R=some (.exit 0,FM 119 [(2,.ptr 1 0)],⟨2,[.row (fx 0 [] 0),.row [.str s,.int .i64 (q0+q.2:Nat)]],1,md'⟩))
theorem jZ (n:Nat) (s:List UInt8) (hl:s.length < 1000000000) (q0:Nat):∀(f:Nat) (acc:List UInt8) (j m md:Nat),acc≠[]→acc.length≤j→q0+j≤s.length→s.length - (q0+j) < f→f≤m→
 Sd (fL f (s.drop (q0+j)) acc j) q0 s (jf 2 1 (cO (aT (az (bh jA []) (n+1)) (n+1) eo) dN 2 m (JP (.ptr 0 0) (.ptr 1 0) (.vec 2 0 acc.length 1 acc.length)) ⟨3,[.row (gw acc),.row (fx 0 [] 0),.row [.str s,.int .i64 (q0+j:Nat)]],2,md⟩))
 | 0,acc,j,m,md,hne,haj,hk,h,_=>by omega
 | f+1,acc,j,0,md,hne,haj,_,_,h=>by omega
 | f+1,acc,j,m+1,md,hne,haj,hk,hf0,hm=>by
   rw[aB];have hf:=oZ acc;have hb:=zf acc;have hlen:=Dk acc;have h8:acc.length+1≤140737488355328:=by omega
   have h9:acc.length+1 < 9223372036854775808:=by omega
   have h10:(gw acc).take acc.length=gw acc:=by rw[List.take_of_length_le];omega
   have hf2:∀b:UInt8,AV.aq (gw acc++[.int .u8 b.toNat])=0:=fun b=>by rw[←kb];exact oZ _
   have hf39:AV.aq (gw acc++[.int .u8 39])=0:=hf2 39;by_cases he:q0+j=s.length
   ·have hd:s.drop (q0+j)=[]:=by rw[he];exact List.drop_length
    have h6:((q0:Int)+(j:Int) < (s.length:Int))=False:=eq_false (by omega);rw[hd,vu];refine⟨md,.inr (.inr ⟨rfl,?_⟩)⟩;simp[jA,eo,dN,h6,hf]
   ·obtain⟨c,h1,hd⟩:=jJ (s:=s) (k:=q0+j) (by omega);have h6:((q0:Int)+(j:Int) < (s.length:Int))=True:=eq_true (by omega);have h3:IntKind.i64.wrap ((q0:Int)+(j:Int)+1)=(q0:Int)+(j:Int)+1:=wrap_i64 (by omega) (by omega);have h3b:IntKind.i64.wrap ((q0:Int)+(j:Int)+1+1)=(q0:Int)+(j:Int)+1+1:=wrap_i64 (by omega) (by omega);have n0:(0≤(q0:Int)+(j:Int))=True:=eq_true (by omega);have n1:(0≤(q0:Int)+(j:Int)+1)=True:=eq_true (by omega);have n2:((q0:Int)+(j:Int)).toNat=q0+j:=by omega
    have n3:((q0:Int)+(j:Int)+1).toNat=q0+j+1:=by omega
    rw[hd]
    have hnext:(s.drop (q0+j+1)=[]∧((q0:Int)+(j:Int)+1 < (s.length:Int))=False)∨∃d,s[q0+j+1]? =some d∧s.drop (q0+j+1)=d::s.drop (q0+j+2)∧((q0:Int)+(j:Int)+1 < (s.length:Int))=True:=by
     by_cases hx:q0+j+1 < s.length
     ·obtain⟨d,a1,a2⟩:=jJ (s:=s) (k:=q0+j+1) hx;exact .inr ⟨d,a1,a2,eq_true (by omega)⟩
     ·exact .inl ⟨List.drop_eq_nil_of_le (by omega),eq_false (by omega)⟩
    by_cases k1:c.toNat=39
    ·have k1':((c.toNat:Int)=39)=True:=eq_true (by omega);rcases hnext with⟨x1,x2⟩ | ⟨d,x0,x1,x2⟩
     ·rw[x1,AD k1];refine⟨0,.inl ⟨acc,rfl,?_⟩⟩;simp[jA,eo,dN,fx,h1,h6,h3,h3b,n0,n1,n2,n3,aX,hf,hf2,hf39,hb,hlen,h8,h9,h10,aR,k1',x2];omega
     ·rw[x1];by_cases k2:d.toNat=39
      ·have k2':((d.toNat:Int)=39)=True:=eq_true (by omega);have x3:=(List.getElem?_eq_some_iff.1 x0).1;rw[wL k1 k2];obtain rfl:c=39:=UInt8.toNat_inj.1 k1;have ih:=jZ n s hl q0 f (acc++[39]) (j+2) m 0 (by simp) (by simp;omega) (by omega) (by omega) (by omega);rw[show q0+(j+2)=q0+j+2 by omega] at ih;simp only[List.length_append,List.length_cons,List.length_nil,Nat.zero_add,Int.natCast_add,Int.natCast_one,jA,fx,kb] at ih;simp[jA,eo,dN,fx,h1,h6,h3,h3b,n0,n1,n2,n3,aX,hf,hf2,hf39,hb,hlen,h8,h9,h10,aR,k2',x0,x2];exact ih
      ·have k2':((d.toNat:Int)=39)=False:=eq_false (by omega);rw[tX k1 k2];refine⟨0,.inl ⟨acc,rfl,?_⟩⟩;simp[jA,eo,dN,fx,h1,h6,h3,h3b,n0,n1,n2,n3,aX,hf,hf2,hf39,hb,hlen,h8,h9,h10,aR,k1',k2',x0,x2];omega
    have k1':((c.toNat:Int)=39)=False:=eq_false (by omega);by_cases k2:c.toNat < 32∨126 < c.toNat
    ·rw[vC k1 k2];have hx:∃e:Int,(if (q0:Int)+(j:Int)+1 < (s.length:Int) then True else True):=⟨0,by split<;>trivial⟩
     by_cases k3:c.toNat < 32
     ·have k3':((c.toNat:Int) < 32)=True:=eq_true (by omega);rcases hnext with⟨x1,x2⟩ | ⟨d,x0,x1,x2⟩
      ·refine⟨min md 1,.inr (.inl ⟨rfl,?_⟩)⟩;simp[jA,eo,dN,fx,h1,h6,h3,h3b,n0,n1,n2,n3,aX,hf,hf2,hf39,hb,hlen,h8,h9,h10,aR,k1',k3',x2]
      ·refine⟨min md 1,.inr (.inl ⟨rfl,?_⟩)⟩;simp[jA,eo,dN,fx,h1,h6,h3,h3b,n0,n1,n2,n3,aX,hf,hf2,hf39,hb,hlen,h8,h9,h10,aR,k1',k3',x0,x2]
     ·have k3':((c.toNat:Int) < 32)=False:=eq_false (by omega);have k4':(126 < (c.toNat:Int))=True:=eq_true (by omega);rcases hnext with⟨x1,x2⟩ | ⟨d,x0,x1,x2⟩
      ·refine⟨min md 1,.inr (.inl ⟨rfl,?_⟩)⟩;simp[jA,eo,dN,fx,h1,h6,h3,h3b,n0,n1,n2,n3,aX,hf,hf2,hf39,hb,hlen,h8,h9,h10,aR,k1',k3',k4',x2]
      ·refine⟨min md 1,.inr (.inl ⟨rfl,?_⟩)⟩;simp[jA,eo,dN,fx,h1,h6,h3,h3b,n0,n1,n2,n3,aX,hf,hf2,hf39,hb,hlen,h8,h9,h10,aR,k1',k3',k4',x0,x2]
    have k3':((c.toNat:Int) < 32)=False:=eq_false (by omega);have k4':(126 < (c.toNat:Int))=False:=eq_false (by omega);by_cases k5:c.toNat=92
    ·have k5':((c.toNat:Int)=92)=True:=eq_true (by omega);rcases hnext with⟨x1,x2⟩ | ⟨d,x0,x1,x2⟩
     ·rw[x1,At k5];have z:=fe [110,116,92,39] 0;rw[show (0:UInt8).toNat=0 from rfl,Cw] at z;simp only[show ((0:Nat):Int)=0 from rfl] at z;refine⟨min md 1,.inr (.inl ⟨rfl,?_⟩)⟩;simp[jA,eo,dN,fx,h1,h6,h3,h3b,n0,n1,n2,n3,aX,hf,hf2,hf39,hb,hlen,h8,h9,h10,aR,k1',k3',k4',k5',x2,z]
     ·rw[x1];have z:=fe [110,116,92,39] d;obtain⟨z1,z2⟩:=E6 d
      cases hesc:xT d with
      | none=>
        rw[zS k5 hesc];rw[z2 hesc] at z;refine⟨min md 1,.inr (.inl ⟨rfl,?_⟩)⟩;simp[jA,eo,dN,fx,h1,h6,h3,h3b,n0,n1,n2,n3,aX,hf,hf2,hf39,hb,hlen,h8,h9,h10,aR,k1',k3',k4',k5',x0,x2,z]
      | some b=>
        rw[xe k5 hesc];obtain⟨i,y1,y2⟩:=z1 b hesc;have x3:=(List.getElem?_eq_some_iff.1 x0).1;rw[y1] at z;have y3:((i:Int) < 0)=False:=eq_false (by omega);have y4:(0≤(i:Int))=True:=eq_true (by omega);have ih:=jZ n s hl q0 f (acc++[b]) (j+2) m 0 (by simp) (by simp;omega) (by omega) (by omega) (by omega);rw[show q0+(j+2)=q0+j+2 by omega] at ih;simp only[List.length_append,List.length_cons,List.length_nil,Nat.zero_add,Int.natCast_add,Int.natCast_one,jA,fx,kb] at ih;simp[jA,eo,dN,fx,h1,h6,h3,h3b,n0,n1,n2,n3,aX,hf,hf2,hf39,hb,hlen,h8,h9,h10,aR,k1',k3',k4',k5',x0,x2,z,y2,y3,y4];exact ih
    ·have k5':((c.toNat:Int)=92)=False:=eq_false (by omega);rw[Cj k1 k2 k5];rcases hnext with⟨x1,x2⟩ | ⟨d,x0,x1,x2⟩
     ·have ih:=jZ n s hl q0 f (acc++[c]) (j+1) m 0 (by simp) (by simp;omega) (by omega) (by omega) (by omega);rw[show q0+(j+1)=q0+j+1 by omega] at ih;simp only[List.length_append,List.length_cons,List.length_nil,Nat.zero_add,Int.natCast_add,Int.natCast_one,jA,fx,kb] at ih;simp[jA,eo,dN,fx,h1,h6,h3,h3b,n0,n1,n2,n3,aX,hf,hf2,hf39,hb,hlen,h8,h9,h10,aR,k1',k3',k4',k5',x2];exact ih
     ·have ih:=jZ n s hl q0 f (acc++[c]) (j+1) m 0 (by simp) (by simp;omega) (by omega) (by omega) (by omega);rw[show q0+(j+1)=q0+j+1 by omega] at ih;simp only[List.length_append,List.length_cons,List.length_nil,Nat.zero_add,Int.natCast_add,Int.natCast_one,jA,fx,kb] at ih;simp[jA,eo,dN,fx,h1,h6,h3,h3b,n0,n1,n2,n3,aX,hf,hf2,hf39,hb,hlen,h8,h9,h10,aR,k1',k3',k4',k5',x0,x2];exact ih
theorem Hg (n:Nat) (s:List UInt8) (hl:s.length < 1000000000) (q0:Nat):∀(f j m md:Nat),q0+j≤s.length→s.length - (q0+j) < f→f≤m→
 Sd (fL f (s.drop (q0+j)) [] j) q0 s (jf 2 1 (cO (aT (az (bh jA []) (n+1)) (n+1) eo) dN 2 m (JP (.ptr 0 0) (.ptr 1 0) .aA) ⟨2,[.row (fx 0 [] 0),.row [.str s,.int .i64 (q0+j:Nat)]],2,md⟩))
 | 0,j,m,md,hk,h,_=>by omega
 | f+1,j,0,md,_,_,h=>by omega
 | f+1,j,m+1,md,hk,hf0,hm=>by
   rw[aB];have hb0:bytesOf []=some []:=rfl;by_cases he:q0+j=s.length
   ·have hd:s.drop (q0+j)=[]:=by rw[he];exact List.drop_length
    have h6:((q0:Int)+(j:Int) < (s.length:Int))=False:=eq_false (by omega);rw[hd,vu];refine⟨md,.inr (.inr ⟨rfl,?_⟩)⟩;simp[jA,eo,dN,h6]
   ·obtain⟨c,h1,hd⟩:=jJ (s:=s) (k:=q0+j) (by omega);have h6:((q0:Int)+(j:Int) < (s.length:Int))=True:=eq_true (by omega);have h3:IntKind.i64.wrap ((q0:Int)+(j:Int)+1)=(q0:Int)+(j:Int)+1:=wrap_i64 (by omega) (by omega);have h3b:IntKind.i64.wrap ((q0:Int)+(j:Int)+1+1)=(q0:Int)+(j:Int)+1+1:=wrap_i64 (by omega) (by omega);have n0:(0≤(q0:Int)+(j:Int))=True:=eq_true (by omega);have n1:(0≤(q0:Int)+(j:Int)+1)=True:=eq_true (by omega);have n2:((q0:Int)+(j:Int)).toNat=q0+j:=by omega
    have n3:((q0:Int)+(j:Int)+1).toNat=q0+j+1:=by omega
    rw[hd]
    have hnext:(s.drop (q0+j+1)=[]∧((q0:Int)+(j:Int)+1 < (s.length:Int))=False)∨∃d,s[q0+j+1]? =some d∧s.drop (q0+j+1)=d::s.drop (q0+j+2)∧((q0:Int)+(j:Int)+1 < (s.length:Int))=True:=by
     by_cases hx:q0+j+1 < s.length
     ·obtain⟨d,a1,a2⟩:=jJ (s:=s) (k:=q0+j+1) hx;exact .inr ⟨d,a1,a2,eq_true (by omega)⟩
     ·exact .inl ⟨List.drop_eq_nil_of_le (by omega),eq_false (by omega)⟩
    by_cases k1:c.toNat=39
    ·have k1':((c.toNat:Int)=39)=True:=eq_true (by omega);rcases hnext with⟨x1,x2⟩ | ⟨d,x0,x1,x2⟩
     ·rw[x1,AD k1];refine⟨0,.inl ⟨[],rfl,?_⟩⟩;simp[jA,eo,dN,fx,h1,h6,h3,h3b,n0,n1,n2,n3,aX,hb0,aR,k1',x2];omega
     ·rw[x1];by_cases k2:d.toNat=39
      ·have k2':((d.toNat:Int)=39)=True:=eq_true (by omega);have x3:=(List.getElem?_eq_some_iff.1 x0).1;rw[wL k1 k2];obtain rfl:c=39:=UInt8.toNat_inj.1 k1;have ih:=jZ n s hl q0 f [39] (j+2) m 0 (by simp) (by simp) (by omega) (by omega) (by omega);rw[show q0+(j+2)=q0+j+2 by omega] at ih;simp only[List.length_cons,List.length_nil,Nat.zero_add,Int.natCast_add,Int.natCast_one,jA,fx,gw,List.map_cons,List.map_nil] at ih;simp[jA,eo,dN,fx,h1,h6,h3,h3b,n0,n1,n2,n3,aX,hb0,aR,k2',x0,x2];exact ih
      ·have k2':((d.toNat:Int)=39)=False:=eq_false (by omega);rw[tX k1 k2];refine⟨0,.inl ⟨[],rfl,?_⟩⟩;simp[jA,eo,dN,fx,h1,h6,h3,h3b,n0,n1,n2,n3,aX,hb0,aR,k1',k2',x0,x2];omega
    have k1':((c.toNat:Int)=39)=False:=eq_false (by omega);by_cases k2:c.toNat < 32∨126 < c.toNat
    ·rw[vC k1 k2];have hx:∃e:Int,(if (q0:Int)+(j:Int)+1 < (s.length:Int) then True else True):=⟨0,by split<;>trivial⟩
     by_cases k3:c.toNat < 32
     ·have k3':((c.toNat:Int) < 32)=True:=eq_true (by omega);rcases hnext with⟨x1,x2⟩ | ⟨d,x0,x1,x2⟩
      ·refine⟨min md 1,.inr (.inl ⟨rfl,?_⟩)⟩;simp[jA,eo,dN,fx,h1,h6,h3,h3b,n0,n1,n2,n3,aX,hb0,aR,k1',k3',x2]
      ·refine⟨min md 1,.inr (.inl ⟨rfl,?_⟩)⟩;simp[jA,eo,dN,fx,h1,h6,h3,h3b,n0,n1,n2,n3,aX,hb0,aR,k1',k3',x0,x2]
     ·have k3':((c.toNat:Int) < 32)=False:=eq_false (by omega);have k4':(126 < (c.toNat:Int))=True:=eq_true (by omega);rcases hnext with⟨x1,x2⟩ | ⟨d,x0,x1,x2⟩
      ·refine⟨min md 1,.inr (.inl ⟨rfl,?_⟩)⟩;simp[jA,eo,dN,fx,h1,h6,h3,h3b,n0,n1,n2,n3,aX,hb0,aR,k1',k3',k4',x2]
      ·refine⟨min md 1,.inr (.inl ⟨rfl,?_⟩)⟩;simp[jA,eo,dN,fx,h1,h6,h3,h3b,n0,n1,n2,n3,aX,hb0,aR,k1',k3',k4',x0,x2]
    have k3':((c.toNat:Int) < 32)=False:=eq_false (by omega);have k4':(126 < (c.toNat:Int))=False:=eq_false (by omega);by_cases k5:c.toNat=92
    ·have k5':((c.toNat:Int)=92)=True:=eq_true (by omega);rcases hnext with⟨x1,x2⟩ | ⟨d,x0,x1,x2⟩
     ·rw[x1,At k5];have z:=fe [110,116,92,39] 0;rw[show (0:UInt8).toNat=0 from rfl,Cw] at z;simp only[show ((0:Nat):Int)=0 from rfl] at z;refine⟨min md 1,.inr (.inl ⟨rfl,?_⟩)⟩;simp[jA,eo,dN,fx,h1,h6,h3,h3b,n0,n1,n2,n3,aX,hb0,aR,k1',k3',k4',k5',x2,z]
     ·rw[x1];have z:=fe [110,116,92,39] d;obtain⟨z1,z2⟩:=E6 d
      cases hesc:xT d with
      | none=>
        rw[zS k5 hesc];rw[z2 hesc] at z;refine⟨min md 1,.inr (.inl ⟨rfl,?_⟩)⟩;simp[jA,eo,dN,fx,h1,h6,h3,h3b,n0,n1,n2,n3,aX,hb0,aR,k1',k3',k4',k5',x0,x2,z]
      | some b=>
        rw[xe k5 hesc];obtain⟨i,y1,y2⟩:=z1 b hesc;have x3:=(List.getElem?_eq_some_iff.1 x0).1;rw[y1] at z;have y3:((i:Int) < 0)=False:=eq_false (by omega);have y4:(0≤(i:Int))=True:=eq_true (by omega);have ih:=jZ n s hl q0 f [b] (j+2) m 0 (by simp) (by simp) (by omega) (by omega) (by omega);rw[show q0+(j+2)=q0+j+2 by omega] at ih;simp only[List.length_cons,List.length_nil,Nat.zero_add,Int.natCast_add,Int.natCast_one,jA,fx,gw,List.map_cons,List.map_nil] at ih;simp[jA,eo,dN,fx,h1,h6,h3,h3b,n0,n1,n2,n3,aX,hb0,aR,k1',k3',k4',k5',x0,x2,z,y2,y3,y4];exact ih
    ·have k5':((c.toNat:Int)=92)=False:=eq_false (by omega);rw[Cj k1 k2 k5];rcases hnext with⟨x1,x2⟩ | ⟨d,x0,x1,x2⟩
     ·have ih:=jZ n s hl q0 f [c] (j+1) m 0 (by simp) (by simp) (by omega) (by omega) (by omega);rw[show q0+(j+1)=q0+j+1 by omega] at ih;simp only[List.length_cons,List.length_nil,Nat.zero_add,Int.natCast_add,Int.natCast_one,jA,fx,gw,List.map_cons,List.map_nil] at ih;simp[jA,eo,dN,fx,h1,h6,h3,h3b,n0,n1,n2,n3,aX,hb0,aR,k1',k3',k4',k5',x2];exact ih
     ·have ih:=jZ n s hl q0 f [c] (j+1) m 0 (by simp) (by simp) (by omega) (by omega) (by omega);rw[show q0+(j+1)=q0+j+1 by omega] at ih;simp only[List.length_cons,List.length_nil,Nat.zero_add,Int.natCast_add,Int.natCast_one,jA,fx,gw,List.map_cons,List.map_nil] at ih;simp[jA,eo,dN,fx,h1,h6,h3,h3b,n0,n1,n2,n3,aX,hb0,aR,k1',k3',k4',k5',x0,x2];exact ih
theorem pK {X:World→Prop} {P:Program} {E:Env} (hE:b8 P X E) {n f:Nat} {rest cs cs':List AV} {v:AV} (he:(az E n f (.ptr 0 0::rest) (tP [.row cs])).map (fun p=>(p.1,p.2.get 0))=some (v,some (.row cs')))
 (hv:v.refs=0) (hr:AV.aq rest=0) (hc:AV.aq cs'=0):b9 P X f (.ptr 0 0::rest) [.row cs] v (some [.row cs']):=by
 obtain⟨⟨v1,h1⟩,e1,e2⟩:=Option.map_eq_some_iff.1 he;simp only[Prod.mk.injEq] at e2;obtain⟨rfl,e3⟩:=e2;exact so hE e1 e3 hv hr hc
def CX (q:Option (List UInt8)×Nat):AV:=match q.1 with | some t=>.tuple [.agg (fx 2 t 0),.int .i64 0] | none=>.tuple [.agg (fx 0 [] 0),.int .i64 2]
def G4:bM:=⟨80,fun
 | [.ptr 0 0],[.row [.str s,.int .i64 i]]=>if s.length < 1000000000∧0≤i∧i < s.length then
  some (CX (fL ((s.drop (i.toNat+1)).length+1) (s.drop (i.toNat+1)) [] 1),some [.row [.str s,.int .i64 (i.toNat+(fL ((s.drop (i.toNat+1)).length+1) (s.drop (i.toNat+1)) [] 1).2:Nat)]]) else none
 | _,_=>none⟩
theorem js:G4.f=80:=(rfl)
theorem LX (s:List UInt8) (k:Nat) (hl:s.length < 1000000000) (hk:k < s.length):
 G4.S [.ptr 0 0] [.row [.str s,.int .i64 k]]=some (CX (fL ((s.drop (k+1)).length+1) (s.drop (k+1)) [] 1),some [.row [.str s,.int .i64 (k+(fL ((s.drop (k+1)).length+1) (s.drop (k+1)) [] 1).2:Nat)]]):=by
 simp only[G4];rw[if_pos ⟨hl,by omega,by omega⟩,Int.toNat_natCast]
theorem Mn:jW Tryz.prog G4:=fun args os v r hv=>by
 unfold G4 at hv;dsimp only at hv;split at hv
 ·rename_i s i;split at hv
  ·rename_i hc;cases hv;obtain⟨k,rfl⟩:∃k:Nat,i=(k:Int):=⟨i.toNat,by omega⟩
   rw[Int.toNat_natCast,js];have h3:IntKind.i64.wrap ((k:Int)+1)=(k:Int)+1:=wrap_i64 (by omega) (by omega);have lp:=Hg (s.length+4) s hc.1 k ((s.drop (k+1)).length+1) 1 (s.length+5) 0 (by omega) (by rw[List.length_drop];omega) (by rw[List.length_drop];omega);generalize fL ((s.drop (k+1)).length+1) (s.drop (k+1)) [] 1=q at *;refine pK (n:=s.length+6) (sh (ss:=jA) (ms:=[]) DF (by simp)) ?_ (by unfold CX;split<;>rfl) rfl rfl;rw[pM];obtain⟨md',lp⟩:=lp;simp only[dN,jA,fx,Int.natCast_add,Int.natCast_one] at lp;rcases lp with⟨t,e1,lp⟩ | ⟨e1,lp⟩ | ⟨e1,lp⟩
   ·unfold CX;rw[e1];simp[jA,Ew,c80,dN,fx,h3,lp,aX]
   ·unfold CX;rw[e1];simp[jA,Ew,c80,dN,fx,h3,lp,aX]
   ·unfold CX;rw[e1];simp[jA,Ew,c80,dN,fx,h3,lp,aX]
  ·cases hv
 ·cases hv
def ng:List Tm→AV
 | []=>.aA
 | x::r=>.sl ((x::r).map Tm.enc)
theorem qV (us:List Tm) (x:Tm):aU (us++[x])=aU us++x.cells:=by simp[aU]
def hT (us:List Tm) (B:List bj):List bj:=match us with
 | []=>B
 | x::r=>.row (aU (x::r))::B
theorem NR {h:aa} {n0 d id:Nat} (x:Tm) (r:List Tm) (hid:n0≤id) (hg:h.get id=some (.row (aU (x::r)))):
 hZ h n0 (d+2) (.vec id 0 (r.length+1) 4 (r.length+1))=some (.sl ((x::r).map Tm.enc),[id]):=
 vD hid hg (by omega) (mI (x::r)) (by simp) (by rw[c8];simp) (by rw[oy,List.take_of_length_le];rw[c8];simp)
theorem BB (us:List Tm):(ng us).refs=0:=by cases us<;>simp[ng,AV.refs]
def pj:aS:=⟨79,fun | [.str s]=>if s.length < 281474976710656 then some (.tuple [.int .i64 (ku s).1,.int .i64 (ku s).2]) else none | _=>none⟩
theorem fg:pj.f=79:=(rfl)
theorem DY (s:List UInt8) (h:s.length < 281474976710656):pj.S [.str s]=some (.tuple [.int .i64 (ku s).1,.int .i64 (ku s).2]):=if_pos h
theorem BG (s:List UInt8) (hd:Lib.trimPrefix s [45]≠[]) (ha:fc (Lib.trimPrefix s [45])=true):(∃v,Lib.parseIntB 64 s=.ok v)∨Lib.parseIntB 64 s=.range:=by
 have pu:∀(M:Nat) (l:List UInt8) (acc:Nat),fc l=true→(∃u,Lib.parseUintM M acc l=.ok u)∨Lib.parseUintM M acc l=.range:=by
  intro M l
  induction l with
  | nil=>intro acc _;exact .inl ⟨acc,rfl⟩
  | cons c r ih=>
    intro acc h;simp only[fc,dW,Bool.and_eq_true,decide_eq_true_eq] at h;unfold Lib.parseUintM;rw[if_pos h.1];split
    ·exact .inr rfl
    ·split
     ·exact .inr rfl
     ·exact ih _ h.2
 cases s with
 | nil=>exact absurd Kg hd
 | cons c r=>
   by_cases hc:c=45
   ·subst hc;rw[Ef] at hd ha;unfold Lib.parseIntB Lib.parseUintB;simp only[show (45:UInt8).toNat=45 from rfl,or_true,if_true,hd,if_false];rcases pu (2 ^ 64 - 1) r 0 ha with⟨u,e⟩ | e
    ·rw[e];simp only[not_true,false_and,if_false,true_and];split
     ·exact .inr rfl
     ·exact .inl ⟨_,rfl⟩
    ·rw[e];exact .inr rfl
   ·rw[wP c r hc] at ha;have h:=S8 hc
    have hg:48≤c.toNat∧c.toNat≤57:=by
     simp only[fc,dW,Bool.and_eq_true,decide_eq_true_eq] at ha;exact ha.1
    unfold Lib.parseIntB Lib.parseUintB;simp only[show (c.toNat=43)=False from eq_false (by omega),show (c.toNat=45)=False from eq_false h,or_false,if_false,reduceCtorEq];rcases pu (2 ^ 64 - 1) (c::r) 0 ha with⟨u,e⟩ | e
    ·rw[e];simp only[not_false_iff,true_and,false_and,if_false];split
     ·exact .inr rfl
     ·exact .inl ⟨_,rfl⟩
    ·rw[e];exact .inr rfl
theorem EM:eR Tryz.prog cq pj:=fun args v hv=>by
 unfold pj at hv ⊢;dsimp only at hv ⊢;split at hv
 ·rename_i s;split at hv
  ·rename_i hl;cases hv;refine cB (n:=5) (h':=h0) (mA (ss:=[ke,trimS,wX]) (by simp[wj.lift,Jl.lift,GN])) ?_ (by simp[AV.refs,AV.aq]) (by simp[AV.refs,AV.aq]);have c1:=wo s [45];have hdl:(Lib.trimPrefix s [45]).length≤s.length:=by unfold Lib.trimPrefix;split<;>simp
   have c2:=Jo (Lib.trimPrefix s [45]) (by omega);unfold digits at c2;have c3:=Hw s hl;unfold ku;dsimp only;have hb:∀l:List UInt8,(l==[])=decide (l=[]):=fun l=>by cases l<;>rfl
   by_cases hd:Lib.trimPrefix s [45]=[]
   ·rw[if_pos hd];rw[hd] at c1;simp[FX,Qc,c1,jX,vd,sW]
   ·rw[if_neg hd];have e1:(Lib.trimPrefix s [45]==[])=false:=by rw[hb];simpa using hd
    cases ha:fc (Lib.trimPrefix s [45]) with
    | false=>
      have e2:(ze (Lib.trimPrefix s [45])==[])=false:=by
       rw[hb];simp only[decide_eq_false_iff_not];intro h;rw[yV,ha] at h;cases h
      simp[FX,Qc,c1,c2,e1,e2,jX,vd,sW]
    | true=>
      have e2:ze (Lib.trimPrefix s [45])=[]:=(yV _).2 ha;rw[e2] at c2;unfold zD at c3;rcases BG s hd ha with⟨u,e⟩ | e
      ·rw[e] at c3 ⊢;dsimp only at c3;simp[FX,Qc,c1,c2,c3,e1,jX,vd,sW]
      ·rw[e] at c3 ⊢;dsimp only at c3;simp[FX,Qc,c1,c2,c3,e1,jX,vd,sW]
  ·cases hv
 ·cases hv
theorem fQ:oC.f=75:=(rfl)
theorem Hy (c:UInt8):oC.S [.int .u8 c.toNat]=some (.bool (k9 c)):=mh _ _ c
theorem fS:ot.f=77:=(rfl)
theorem Ik (c:UInt8):ot.S [.int .u8 c.toNat]=some (.bool (lh c)):=mh _ _ c
theorem J2 (c:UInt8):oG.S [.int .u8 c.toNat]=some (.bool (dW c)):=mh _ _ c
def BT:List aS:=[oC,ot,oG,HK,pj,gM,fX]
theorem Qv:∀s ∈ BT,eR Tryz.prog cq s:=by simp[BT,x7.lift,yu.lift,xk.lift,FP.lift,EM,xX.lift,mj.lift]
def B1:List bM:=[runM,G4,vP,yq]
theorem PS:∀m ∈ B1,dy Tryz.prog cq m:=by simp[B1,Fq.lift,Mn.lift,C3.lift,Ky.lift]
theorem EY {s:List UInt8} {k:Nat} (h:k≤s.length):sliceB s.length (some (.int .i64 k)) none=some (k,s.length):=by
 have a1:(0:Int)≤(k:Int)∧(k:Int)≤(s.length:Int):=by omega
 simp[sliceB,a1]
theorem Ij (c:UInt8):decide (0≤kl c.toNat tM)=mi c:=rX _ _
theorem zY (c d a b:UInt8) (r:List UInt8):Lib.hasPrefix (c::d::r) [a,b]=(decide (c.toNat=a.toNat)&&decide (d.toNat=b.toNat)):=by
 have e:∀x y:UInt8,(x==y)=decide (y.toNat=x.toNat):=fun x y=>by
  by_cases h:x=y
  ·subst h;simp
  ·have:¬ y.toNat=x.toNat:=fun e=>h (UInt8.toNat_inj.1 e.symm)
   rw[decide_eq_false this];simpa using h
 simp[Lib.hasPrefix,List.isPrefixOf,e]
theorem Fg (c a b:UInt8):Lib.hasPrefix [c] [a,b]=false:=by simp[Lib.hasPrefix,List.isPrefixOf]
def eU (t:Tok):AV:=.agg [.int .i64 t.kind,.str t.text,.int .i64 t.num,.bool t.ig,.int .i64 t.at_]
def Hn:bM:=⟨45,fun
 | [.ptr 0 0],[.row [.str s,.int .i64 i]]=>if s.length < 1000000000∧0≤i∧i < s.length then
  some (.tuple [eU (dr (s.drop i.toNat)).1,.int .i64 (dr (s.drop i.toNat)).2.2],some [.row [.str s,.int .i64 (i.toNat+(dr (s.drop i.toNat)).2.1:Nat)]]) else none
 | _,_=>none⟩
theorem dL:Hn.f=45:=(rfl)
theorem Fa (s:List UInt8) (k:Nat) (hl:s.length < 1000000000) (hk:k < s.length):
 Hn.S [.ptr 0 0] [.row [.str s,.int .i64 k]]=some (.tuple [eU (dr (s.drop k)).1,.int .i64 (dr (s.drop k)).2.2],some [.row [.str s,.int .i64 (k+(dr (s.drop k)).2.1:Nat)]]):=by
 simp only[Hn];rw[if_pos ⟨hl,by omega,by omega⟩,Int.toNat_natCast]
theorem Lb (s:List UInt8) (k:Nat) (hl:s.length < 1000000000) (hk:k < s.length) (n:Nat):
 (az (bh BT B1) (n+2) 45 [.ptr 0 0] (tP [.row [.str s,.int .i64 k]])).map (fun p=>(p.1,p.2.get 0))=
  some (.tuple [eU (dr (s.drop k)).1,.int .i64 (dr (s.drop k)).2.2],some (.row [.str s,.int .i64 (k+(dr (s.drop k)).2.1:Nat)])):=by
 obtain⟨c,h1,hd⟩:=jJ (s:=s) (k:=k) hk;rw[pM];have q1:=Hy c;have q2:=Ik c;have q3:=J2 c;have q4:=FY c;have r1:=Aj 76 kE (by simp[qA]) s k hl (by omega);have r2:=Aj 78 dW (by simp[qA]) s k hl (by omega);have r3:=LX s k hl hk;have r4:=Bz s k hl hk;have r5:=KA s k hl (by omega);have h3:IntKind.i64.wrap ((k:Int)+1)=(k:Int)+1:=wrap_i64 (by omega) (by omega);have h3b:IntKind.i64.wrap ((k:Int)+2)=(k:Int)+2:=wrap_i64 (by omega) (by omega);have h3c:IntKind.i64.wrap (k:Int)=(k:Int):=wrap_i64 (by omega) (by omega);have sf:=EY (s:=s) (k:=k) (by omega);have tk:(s.take s.length).drop k=s.drop k:=by rw[List.take_length]
 have hb:=c.toNat_lt;have rn1:=jr dW (s.drop k);have F:oC.f=75∧ot.f=77∧oG.f=78∧HK.f=82∧pj.f=79∧gM.f=84∧fX.f=65:=⟨rfl,rfl,rfl,rfl,rfl,rfl,rfl⟩
 rw[hd] at r1 r2 r4 r5 rn1 ⊢;unfold dr;dsimp only
 cases k1:k9 c with
 | true=>
   rw[k1] at q1;simp only[if_true];generalize runN kE (c::s.drop (k+1))=q at *;simp only[Int.natCast_add] at r1;simp[BT,B1,jN,C4,h1,q1,r1,eU,fQ,fS,gE,gL,fg,dK,aX,gg,js,fu,gF]
 | false=>
 rw[k1] at q1;simp only[Bool.false_eq_true,if_false]
 cases k2:lh c with
 | true=>
   rw[k2] at q2;simp only[if_true];generalize runN kE (c::s.drop (k+1))=q at *;simp only[Int.natCast_add] at r1;simp[BT,B1,jN,C4,h1,q1,q2,r1,eU,fQ,fS,gE,gL,fg,dK,aX,gg,js,fu,gF]
 | false=>
 rw[k2] at q2;simp only[Bool.false_eq_true,if_false]
 cases k3:dW c with
 | true=>
   rw[k3] at q3;simp only[if_true];have q5:=DY ((c::s.drop (k+1)).take (runN dW (c::s.drop (k+1)))) (by rw[List.length_take];simp;omega);generalize (c::s.drop (k+1)).take (runN dW (c::s.drop (k+1)))=D at *;generalize runN dW (c::s.drop (k+1))=q at *;generalize ku D=P at *;obtain⟨v,e⟩:=P;dsimp only at q5 ⊢;simp only[Int.natCast_add] at r2;simp[BT,B1,jN,C4,h1,q1,q2,q3,q5,r2,eU,fQ,fS,gE,gL,fg,dK,aX,gg,js,fu,gF]
 | false=>
 rw[k3] at q3;simp only[Bool.false_eq_true,if_false];by_cases k4:c.toNat=39
 ·have k4':((c.toNat:Int)=39)=True:=eq_true (by omega);rw[if_pos k4];generalize fL ((s.drop (k+1)).length+1) (s.drop (k+1)) [] 1=Q at *;obtain⟨a,q⟩:=Q;simp only[Int.natCast_add] at r3
  cases a with
  | none=>
    simp only[CX,fx] at r3;simp[BT,B1,jN,C4,h1,q1,q2,q3,k4',r3,eU,rW,fQ,fS,gE,gL,fg,dK,aX,gg,js,fu,gF]
  | some t=>
    simp only[CX,fx] at r3;simp[BT,B1,jN,C4,h1,q1,q2,q3,k4',r3,eU,rW,fQ,fS,gE,gL,fg,dK,aX,gg,js,fu,gF]
 have k4':((c.toNat:Int)=39)=False:=eq_false (by omega);rw[if_neg k4]
 cases k5:kD (c::s.drop (k+1)) with
 | true=>
   rw[k5] at r4;simp only[if_true];simp[BT,B1,jN,C4,h1,h3,q1,q2,q3,k4',r4,eU,fQ,fS,gE,gL,fg,dK,aX,gg,js,fu,gF]
 | false=>
 rw[k5] at r4;simp only[Bool.false_eq_true,if_false]
 cases k6:rT c with
 | true=>
   rw[k6] at q4;simp only[if_true];generalize kh (c::s.drop (k+1))=q at *;simp only[Int.natCast_add] at r5;simp[BT,B1,jN,C4,h1,q1,q2,q3,q4,k4',r4,r5,eU,fQ,fS,gE,gL,fg,dK,aX,gg,js,fu,gF]
 | false=>
 rw[k6] at q4;simp only[Bool.false_eq_true,if_false];have nn:((c.toNat:Int)).toNat=c.toNat:=by omega
 have cc:UInt8.ofNat c.toNat=c:=by simp
 by_cases k7:c.toNat=59∨c.toNat=33
 ·rw[if_pos k7];have c128:((c.toNat:Int) < 128)=True:=eq_true (by omega);by_cases k8:c.toNat=59
  ·have k8':((c.toNat:Int)=59)=True:=eq_true (by omega);simp[BT,B1,jN,C4,h1,h3,q1,q2,q3,q4,k4',k8',r4,c128,nn,cc,eU,fQ,fS,gE,gL,fg,dK,aX,gg,js,fu,gF]
  ·have k8':((c.toNat:Int)=59)=False:=eq_false (by omega);have k9':((c.toNat:Int)=33)=True:=eq_true (by omega);simp[BT,B1,jN,C4,h1,h3,q1,q2,q3,q4,k4',k8',k9',r4,c128,nn,cc,eU,fQ,fS,gE,gL,fg,dK,aX,gg,js,fu,gF]
 rw[if_neg k7];have k8':((c.toNat:Int)=59)=False:=eq_false (by omega);have k9':((c.toNat:Int)=33)=False:=eq_false (by omega);have p1:gM.S [.str (s.drop k),.str [91,93]]=some (.bool (Lib.hasPrefix (c::s.drop (k+1)) [91,93])):=by rw[←hd];exact qm _ _
 have p2:gM.S [.str (s.drop k),.str [123,125]]=some (.bool (Lib.hasPrefix (c::s.drop (k+1)) [123,125])):=by rw[←hd];exact qm _ _
 have p3:=fe tM c;have p4:=Ij c;generalize kl c.toNat tM=x at *;simp only[tM] at p3
 have punctC:mi c=true→c.toNat < 128:=fun h=>by
  unfold mi at h;rw[List.any_eq_true] at h;obtain⟨d,hd1,hd2⟩:=h;have e:=of_decide_eq_true hd2;simp only[tM,List.mem_cons,List.not_mem_nil,or_false] at hd1;rcases hd1 with rfl | rfl | rfl | rfl | rfl | rfl | rfl | rfl<;>rw[←e]<;>decide
 have fin:∀(R:Bool),R=mi c→Lib.hasPrefix (c::s.drop (k+1)) [91,93]=false→Lib.hasPrefix (c::s.drop (k+1)) [123,125]=false→
  (az (bh BT B1) (n+2) 45 [.ptr 0 0] ⟨1,[.row [.str s,.int .i64 k]],1,1⟩).map (fun p=>(p.1,p.2.get 0))=
   some (if R then .tuple [eU ⟨5,[c],0,false,0⟩,.int .i64 0] else .tuple [eU rW,.int .i64 2],some (.row [.str s,.int .i64 (k+(if R then 1 else 0):Nat)])):=fun R hR w1 w2=>by
  rw[w1] at p1;rw[w2] at p2;rw[←hR] at p4
  cases R with
  | true=>
    have c128:((c.toNat:Int) < 128)=True:=eq_true (by have:=punctC hR.symm;omega);have p5:(0≤x)=True:=eq_true (of_decide_eq_true p4);simp[BT,B1,jN,C4,h1,h3,q1,q2,q3,q4,k4',k8',k9',r4,c128,nn,cc,sf,tk,p1,p2,p3,p5,eU,fQ,fS,gE,gL,fg,dK,aX,gg,js,fu,gF]
  | false=>
    have p5:(0≤x)=False:=eq_false (of_decide_eq_false p4);simp[BT,B1,jN,C4,h1,h3,q1,q2,q3,q4,k4',k8',k9',r4,nn,cc,sf,tk,p1,p2,p3,p5,eU,rW,fQ,fS,gE,gL,fg,dK,aX,gg,js,fu,gF]
 cases hr:s.drop (k+1) with
 | nil=>
   rw[hr] at fin;have:=fin (mi c) rfl (Fg _ _ _) (Fg _ _ _);rw[this];cases mi c<;>rfl
 | cons d r=>
   rw[hr] at fin;dsimp only;by_cases kk:(c.toNat=91∧d.toNat=93)∨(c.toNat=123∧d.toNat=125)
   ·rw[if_pos kk]
    have hkl:k+2≤s.length:=by
     have:=congrArg List.length hr;rw[List.length_drop] at this;simp at this;omega
    obtain⟨s1,s2⟩:=tZ (s:=s) (k:=k) (q:=2) hkl;have s3:(s.drop k).take 2=[c,d]:=by rw[hd,hr];rfl
    rw[s3] at s2;simp only[Int.natCast_add,show ((2:Nat):Int)=2 from rfl] at s1;rw[hr,zY] at p1 p2;rw[show (91:UInt8).toNat=91 from rfl,show (93:UInt8).toNat=93 from rfl] at p1;rw[show (123:UInt8).toNat=123 from rfl,show (125:UInt8).toNat=125 from rfl] at p2;rcases kk with⟨a1,a2⟩ | ⟨a1,a2⟩
    ·rw[decide_eq_true a1,decide_eq_true a2] at p1;simp[BT,B1,jN,C4,h1,h3b,h3c,q1,q2,q3,q4,k4',k8',k9',r4,nn,cc,sf,tk,p1,p2,s1,s2,eU,fQ,fS,gE,gL,fg,dK,aX,gg,js,fu,gF]
    ·rw[decide_eq_false (show ¬ c.toNat=91 by omega)] at p1;rw[decide_eq_true a1,decide_eq_true a2] at p2;simp[BT,B1,jN,C4,h1,h3b,h3c,q1,q2,q3,q4,k4',k8',k9',r4,nn,cc,sf,tk,p1,p2,s1,s2,eU,fQ,fS,gE,gL,fg,dK,aX,gg,js,fu,gF]
   ·rw[if_neg kk]
    have:=fin (mi c) rfl (by
     rw[zY,show (91:UInt8).toNat=91 from rfl,show (93:UInt8).toNat=93 from rfl];by_cases a:c.toNat=91
     ·rw[decide_eq_true a,decide_eq_false (fun b=>kk (.inl ⟨a,b⟩))];rfl
     ·rw[decide_eq_false a];rfl) (by
     rw[zY,show (123:UInt8).toNat=123 from rfl,show (125:UInt8).toNat=125 from rfl];by_cases a:c.toNat=123
     ·rw[decide_eq_true a,decide_eq_false (fun b=>kk (.inr ⟨a,b⟩))];rfl
     ·rw[decide_eq_false a];rfl)
    rw[this];cases mi c<;>rfl
theorem MQ:dy Tryz.prog cq Hn:=fun args os v r hv=>by
 unfold Hn at hv;dsimp only at hv;split at hv
 ·rename_i s i;split at hv
  ·rename_i hc;cases hv;obtain⟨k,rfl⟩:∃k:Nat,i=(k:Int):=⟨i.toNat,by omega⟩
   rw[Int.toNat_natCast,dL];exact pK (n:=5) (eV Qv PS) (Lb s k hc.1 (by omega) 3) (by simp[AV.refs,AV.aq,eU]) rfl rfl
  ·cases hv
 ·cases hv
def eB (l:List Tok):List AV:=l.flatMap Tok.cells
theorem tS (l:List Tok):∀x ∈ l.map Tok.enc,xM 5 x:=by
 intro x hx;obtain⟨o,_,rfl⟩:=List.mem_map.1 hx;exact⟨rfl,rfl,(fun h=>by cases h),fun _=>rfl,rfl⟩
theorem wx (l:List Tok):(l.map Tok.enc).flatMap AV.cells=eB l:=by
 induction l with
 | nil=>rfl
 | cons t r ih=>
   unfold eB at ih ⊢;rw[List.map_cons,List.flatMap_cons,List.flatMap_cons,ih];rfl
theorem pH (l:List Tok):(eB l).length=l.length*5:=by
 rw[←wx,xF (tS l),List.length_map]
theorem qQ (l:List Tok):AV.aq (eB l)=0:=by
 rw[←wx];exact lP (vQ (tS l))
theorem wT (l:List Tok) (t:Tok):eB (l++[t])=eB l++t.cells:=by simp[eB]
theorem G0 (l:List Tok):AV.aq (l.map Tok.enc)=0:=by
 induction l with
 | nil=>rfl
 | cons t r ih=>simp[AV.aq,ih,Tok.enc,Tok.cells,AV.refs]
theorem SZ {h:aa} {n0 d id:Nat} (x:Tok) (r:List Tok) (hid:n0≤id) (hg:h.get id=some (.row (eB (x::r)))):
 hZ h n0 (d+2) (.vec id 0 (r.length+1) 5 (r.length+1))=some (.sl ((x::r).map Tok.enc),[id]):=
 vD hid hg (by omega) (tS (x::r)) (by simp) (by rw[pH];simp) (by rw[wx,List.take_of_length_le];rw[pH];simp)
def vK (id:Nat):List Tok→AV
 | []=>.aA
 | x::r=>.vec id 0 (r.length+1) 5 (r.length+1)
def hK (us:List Tok) (B:List bj):List bj:=match us with
 | []=>B
 | x::r=>.row (eB (x::r))::B
theorem Sy {id:Nat} {l:List Tok} (h:l≠[]):vK id l=.vec id 0 l.length 5 l.length:=by
 cases l with
 | nil=>exact absurd rfl h
 | cons x r=>rfl
theorem RO {l:List Tok} {B:List bj} (h:l≠[]):hK l B=.row (eB l)::B:=by
 cases l with
 | nil=>exact absurd rfl h
 | cons x r=>rfl
def ju:List aS:=[]
def jd:List bM:=[Hn,xy]
theorem Pb:∀m ∈ jd,dy Tryz.prog cq m:=by simp[jd,MQ,KJ.lift]
def L1 (r:List Tok×Int×Int) (s:List UInt8) (R:Option (Ex×List AV×aa)):Prop:=
 ∃md',(r.2.2=0∧r.2.1=s.length∧R=some (.exit 0,FM 89 [(0,.str s),(6,vK 1 r.1)],⟨(hK r.1 [.row [.str s,.int .i64 s.length]]).length,hK r.1 [.row [.str s,.int .i64 s.length]],0,md'⟩))∨
   (r.2.2≠0∧r.1=[]∧∃x,R=some (.ret,FM 89 [(2,.aA),(3,.int .i64 r.2.1),(4,.int .i64 r.2.2)],⟨1,[.row [.str s,.int .i64 x]],0,md'⟩))
theorem Cp (n:Nat) (s:List UInt8) (hl:s.length≤4096):∀(f:Nat) (acc:List Tok) (j m md:Nat),acc≠[]→acc.length≤1024→j≤s.length→s.length - j < f→f≤m→
 L1 (n7 f s j acc) s (jf 1 0 (cO (aT (az (bh ju jd) (n+1)) (n+1) dM) dz 1 m (vV (.str s) (.ptr 0 0) (.vec 1 0 acc.length 5 acc.length)) ⟨2,[.row (eB acc),.row [.str s,.int .i64 j]],1,md⟩))
 | 0,acc,j,m,md,hne,hac,hk,h,_=>by omega
 | f+1,acc,j,0,md,hne,hac,_,_,h=>by omega
 | f+1,acc,j,m+1,md,hne,hac,hk,hf0,hm=>by
   rw[aB];have hf:=qQ acc;have h8:(acc.length+1)*48≤140737488355328:=by omega
   have h9:acc.length+1 < 9223372036854775808:=by omega
   have h10:(eB acc).take (acc.length*5)=eB acc:=by rw[List.take_of_length_le];rw[pH];exact Nat.le_refl _
   have h11:=pH acc;unfold n7;by_cases he:j=s.length
   ·have h6:((j:Int) < (s.length:Int))=False:=eq_false (by omega);rw[if_pos (by omega)];refine⟨md,.inl ⟨rfl,rfl,?_⟩⟩;rw[Sy hne,RO hne];simp[ju,jd,dM,dz,dL,de,eU,hf,h8,h9,h10,h11,aR,h6,he]
   ·have hjl:j < s.length:=by omega
    have h6:((j:Int) < (s.length:Int))=True:=eq_true (by omega);rw[if_neg (by omega)];have q1:=Fa s j (by omega) hjl;obtain⟨b1,b2⟩:=jI (s.drop j);rw[List.length_drop] at b1;generalize dr (s.drop j)=O at *;obtain⟨⟨kd,tx,nm,op,a0⟩,k,e⟩:=O;dsimp only at q1 b1 b2 ⊢;simp only[Int.natCast_add,eU] at q1;by_cases e0:e=0
    ·subst e0;rw[if_neg (by simp)];have hk1:=b2 rfl;by_cases hbad:((kd=1∨kd=2)∧64 < tx.length)∨(acc:List Tok).length=1024
     ·rw[if_pos hbad];refine⟨0,.inr ⟨by simp,rfl,(j+k:Nat),?_⟩⟩;by_cases k1:kd=1
      ·by_cases k3:64 < tx.length
       ·have k3':((64:Int) < (tx.length:Int))=True:=eq_true (by omega);simp[ju,jd,dM,dz,dL,de,eU,hf,h8,h9,h10,h11,aR,h6,q1,k1,k3']
       ·have k3':((64:Int) < (tx.length:Int))=False:=eq_false (by omega);have k4:(acc:List Tok).length=1024:=by omega
        have k4':((acc.length:Int)=1024)=True:=eq_true (by omega);simp[ju,jd,dM,dz,dL,de,eU,hf,h8,h9,h10,h11,aR,h6,q1,k1,k3',k4']
      ·by_cases k2:kd=2
       ·by_cases k3:64 < tx.length
        ·have k3':((64:Int) < (tx.length:Int))=True:=eq_true (by omega);simp[ju,jd,dM,dz,dL,de,eU,hf,h8,h9,h10,h11,aR,h6,q1,k2,k3']
        ·have k3':((64:Int) < (tx.length:Int))=False:=eq_false (by omega);have k4:(acc:List Tok).length=1024:=by omega
         have k4':((acc.length:Int)=1024)=True:=eq_true (by omega);simp[ju,jd,dM,dz,dL,de,eU,hf,h8,h9,h10,h11,aR,h6,q1,k2,k3',k4']
       ·have k4:(acc:List Tok).length=1024:=by omega
        have k4':((acc.length:Int)=1024)=True:=eq_true (by omega);simp[ju,jd,dM,dz,dL,de,eU,hf,h8,h9,h10,h11,aR,h6,q1,k1,k2,k4']
     ·rw[if_neg hbad];have hsk:=jg (s.length+1) (s.drop (j+k));rw[List.length_drop] at hsk;have q2:=wy s (j+k) (by omega) (by omega);simp only[Int.natCast_add] at q2;have n0:(0≤(j:Int)+(k:Int))=True:=eq_true (by omega);have n2:((j:Int)+(k:Int)).toNat=j+k:=by omega
      have hopn:(s[j+k]? =none∧((j:Int)+(k:Int) < (s.length:Int))=False)∨∃d,s[j+k]? =some d∧((j:Int)+(k:Int) < (s.length:Int))=True:=by
       by_cases hx:j+k < s.length
       ·exact .inr ⟨s[j+k],List.getElem?_eq_getElem hx,eq_true (by omega)⟩
       ·exact .inl ⟨List.getElem?_eq_none (by omega),eq_false (by omega)⟩
      have k4':((acc.length:Int)=1024)=False:=eq_false (by omega)
      have key:∀(b:Bool),decide ((s[j+k]?.map UInt8.toNat)=some 40)=b→(∀(R:Option (Ex×List AV×aa)),R=jf 1 0 (cO (aT (az (bh ju jd) (n+1)) (n+1) dM) dz 1 m (vV (.str s) (.ptr 0 0) (.vec 1 0 (acc++[(⟨kd,tx,nm,b,j⟩:Tok)]).length 5 (acc++[(⟨kd,tx,nm,b,j⟩:Tok)]).length)) ⟨2,[.row (eB (acc++[(⟨kd,tx,nm,b,j⟩:Tok)])),.row [.str s,.int .i64 (j+k+dG (s.length+1) (s.drop (j+k)):Nat)]],1,0⟩)→
       L1 (n7 f s (j+k+dG (s.length+1) (s.drop (j+k))) (acc++[(⟨kd,tx,nm,decide ((s[j+k]?.map UInt8.toNat)=some 40),j⟩:Tok)])) s R):=fun b hb R hR=>by
       rw[hR,hb];exact Cp n s hl f (acc++[⟨kd,tx,nm,b,j⟩]) (j+k+dG (s.length+1) (s.drop (j+k))) m 0 (by simp) (by simp<;>omega) (by omega) (by omega) (by omega)
      generalize dG (s.length+1) (s.drop (j+k))=sk at *;have tkc:∀b:Bool,eB (acc++[(⟨kd,tx,nm,b,j⟩:Tok)])=eB acc++[.int .i64 kd,.str tx,.int .i64 nm,.bool b,.int .i64 j]:=fun b=>wT _ _
      have hf2:∀b:Bool,AV.aq (eB acc++[.int .i64 kd,.str tx,.int .i64 nm,.bool b,.int .i64 j])=0:=fun b=>by rw[←tkc];exact qQ _
      rcases hopn with⟨x1,x2⟩ | ⟨d,x1,x2⟩
      ·by_cases k1:kd=1
       ·obtain rfl:=k1;have k3':((64:Int) < (tx.length:Int))=False:=eq_false (by omega);refine key false (by simp[x1]) _ ?_;simp only[tkc,List.length_append,List.length_cons,List.length_nil,Nat.zero_add,Int.natCast_add,ju,jd];simp[ju,jd,dM,dz,dL,de,eU,hf,h8,h9,h10,h11,aR,h6,q1,q2,n0,n2,k4',hf2,x2,k3']
       ·by_cases k2:kd=2
        ·obtain rfl:=k2;have k3':((64:Int) < (tx.length:Int))=False:=eq_false (by omega);refine key false (by simp[x1]) _ ?_;simp only[tkc,List.length_append,List.length_cons,List.length_nil,Nat.zero_add,Int.natCast_add,ju,jd];simp[ju,jd,dM,dz,dL,de,eU,hf,h8,h9,h10,h11,aR,h6,q1,q2,n0,n2,k4',hf2,x2,k3']
        ·refine key false (by simp[x1]) _ ?_;simp only[tkc,List.length_append,List.length_cons,List.length_nil,Nat.zero_add,Int.natCast_add,ju,jd];simp[ju,jd,dM,dz,dL,de,eU,hf,h8,h9,h10,h11,aR,h6,q1,q2,n0,n2,k4',hf2,x2,k1,k2]
      ·by_cases k40:d.toNat=40
       ·have k40':((d.toNat:Int)=40)=True:=eq_true (by omega);by_cases k1:kd=1
        ·obtain rfl:=k1;have k3':((64:Int) < (tx.length:Int))=False:=eq_false (by omega);refine key true (by simp[x1,k40]) _ ?_;simp only[tkc,List.length_append,List.length_cons,List.length_nil,Nat.zero_add,Int.natCast_add,ju,jd];simp[ju,jd,dM,dz,dL,de,eU,hf,h8,h9,h10,h11,aR,h6,q1,q2,n0,n2,k4',hf2,x1,x2,k40',k3']
        ·by_cases k2:kd=2
         ·obtain rfl:=k2;have k3':((64:Int) < (tx.length:Int))=False:=eq_false (by omega);refine key true (by simp[x1,k40]) _ ?_;simp only[tkc,List.length_append,List.length_cons,List.length_nil,Nat.zero_add,Int.natCast_add,ju,jd];simp[ju,jd,dM,dz,dL,de,eU,hf,h8,h9,h10,h11,aR,h6,q1,q2,n0,n2,k4',hf2,x1,x2,k40',k3']
         ·refine key true (by simp[x1,k40]) _ ?_;simp only[tkc,List.length_append,List.length_cons,List.length_nil,Nat.zero_add,Int.natCast_add,ju,jd];simp[ju,jd,dM,dz,dL,de,eU,hf,h8,h9,h10,h11,aR,h6,q1,q2,n0,n2,k4',hf2,x1,x2,k40',k1,k2]
       ·have k40':((d.toNat:Int)=40)=False:=eq_false (by omega);by_cases k1:kd=1
        ·obtain rfl:=k1;have k3':((64:Int) < (tx.length:Int))=False:=eq_false (by omega);refine key false (by simp[x1,k40]) _ ?_;simp only[tkc,List.length_append,List.length_cons,List.length_nil,Nat.zero_add,Int.natCast_add,ju,jd];simp[ju,jd,dM,dz,dL,de,eU,hf,h8,h9,h10,h11,aR,h6,q1,q2,n0,n2,k4',hf2,x1,x2,k40',k3']
        ·by_cases k2:kd=2
         ·obtain rfl:=k2;have k3':((64:Int) < (tx.length:Int))=False:=eq_false (by omega);refine key false (by simp[x1,k40]) _ ?_;simp only[tkc,List.length_append,List.length_cons,List.length_nil,Nat.zero_add,Int.natCast_add,ju,jd];simp[ju,jd,dM,dz,dL,de,eU,hf,h8,h9,h10,h11,aR,h6,q1,q2,n0,n2,k4',hf2,x1,x2,k40',k3']
         ·refine key false (by simp[x1,k40]) _ ?_;simp only[tkc,List.length_append,List.length_cons,List.length_nil,Nat.zero_add,Int.natCast_add,ju,jd];simp[ju,jd,dM,dz,dL,de,eU,hf,h8,h9,h10,h11,aR,h6,q1,q2,n0,n2,k4',hf2,x1,x2,k40',k1,k2]
    ·rw[if_pos e0];refine⟨0,.inr ⟨e0,rfl,(j+k:Nat),?_⟩⟩;simp[ju,jd,dM,dz,dL,de,eU,hf,h8,h9,h10,h11,aR,h6,q1,e0]
theorem HH (n:Nat) (s:List UInt8) (hl:s.length≤4096):∀(f j m md:Nat),j≤s.length→s.length - j < f→f≤m→
 L1 (n7 f s j []) s (jf 1 0 (cO (aT (az (bh ju jd) (n+1)) (n+1) dM) dz 1 m (vV (.str s) (.ptr 0 0) .aA) ⟨1,[.row [.str s,.int .i64 j]],1,md⟩))
 | 0,j,m,md,hk,h,_=>by omega
 | f+1,j,0,md,_,_,h=>by omega
 | f+1,j,m+1,md,hk,hf0,hm=>by
   rw[aB];unfold n7;by_cases he:j=s.length
   ·have h6:((j:Int) < (s.length:Int))=False:=eq_false (by omega);rw[if_pos (by omega)];refine⟨md,.inl ⟨rfl,rfl,?_⟩⟩;unfold vK hK;simp[ju,jd,dM,dz,dL,de,eU,aR,h6,he]
   ·have hjl:j < s.length:=by omega
    have h6:((j:Int) < (s.length:Int))=True:=eq_true (by omega);rw[if_neg (by omega)];have q1:=Fa s j (by omega) hjl;obtain⟨b1,b2⟩:=jI (s.drop j);rw[List.length_drop] at b1;generalize dr (s.drop j)=O at *;obtain⟨⟨kd,tx,nm,op,a0⟩,k,e⟩:=O;dsimp only at q1 b1 b2 ⊢;simp only[Int.natCast_add,eU] at q1;by_cases e0:e=0
    ·subst e0;rw[if_neg (by simp)];have hk1:=b2 rfl;by_cases hbad:((kd=1∨kd=2)∧64 < tx.length)∨([]:List Tok).length=1024
     ·rw[if_pos hbad];refine⟨0,.inr ⟨by simp,rfl,(j+k:Nat),?_⟩⟩;by_cases k1:kd=1
      ·by_cases k3:64 < tx.length
       ·have k3':((64:Int) < (tx.length:Int))=True:=eq_true (by omega);simp[ju,jd,dM,dz,dL,de,eU,aR,h6,q1,k1,k3']
       ·have k3':((64:Int) < (tx.length:Int))=False:=eq_false (by omega);have k4:([]:List Tok).length=1024:=by omega
        exact absurd k4 (by simp)

      ·by_cases k2:kd=2
       ·by_cases k3:64 < tx.length
        ·have k3':((64:Int) < (tx.length:Int))=True:=eq_true (by omega);simp[ju,jd,dM,dz,dL,de,eU,aR,h6,q1,k2,k3']
        ·have k3':((64:Int) < (tx.length:Int))=False:=eq_false (by omega);have k4:([]:List Tok).length=1024:=by omega
         exact absurd k4 (by simp)

       ·have k4:([]:List Tok).length=1024:=by omega
        exact absurd k4 (by simp)

     ·rw[if_neg hbad];have hsk:=jg (s.length+1) (s.drop (j+k));rw[List.length_drop] at hsk;have q2:=wy s (j+k) (by omega) (by omega);simp only[Int.natCast_add] at q2;have n0:(0≤(j:Int)+(k:Int))=True:=eq_true (by omega);have n2:((j:Int)+(k:Int)).toNat=j+k:=by omega
      have hopn:(s[j+k]? =none∧((j:Int)+(k:Int) < (s.length:Int))=False)∨∃d,s[j+k]? =some d∧((j:Int)+(k:Int) < (s.length:Int))=True:=by
       by_cases hx:j+k < s.length
       ·exact .inr ⟨s[j+k],List.getElem?_eq_getElem hx,eq_true (by omega)⟩
       ·exact .inl ⟨List.getElem?_eq_none (by omega),eq_false (by omega)⟩
      have k4':((0:Int)=1024)=False:=by simp
      have key:∀(b:Bool),decide ((s[j+k]?.map UInt8.toNat)=some 40)=b→(∀(R:Option (Ex×List AV×aa)),R=jf 1 0 (cO (aT (az (bh ju jd) (n+1)) (n+1) dM) dz 1 m (vV (.str s) (.ptr 0 0) (.vec 1 0 ([]++[(⟨kd,tx,nm,b,j⟩:Tok)]).length 5 ([]++[(⟨kd,tx,nm,b,j⟩:Tok)]).length)) ⟨2,[.row (eB ([]++[(⟨kd,tx,nm,b,j⟩:Tok)])),.row [.str s,.int .i64 (j+k+dG (s.length+1) (s.drop (j+k)):Nat)]],1,0⟩)→
       L1 (n7 f s (j+k+dG (s.length+1) (s.drop (j+k))) ([]++[(⟨kd,tx,nm,decide ((s[j+k]?.map UInt8.toNat)=some 40),j⟩:Tok)])) s R):=fun b hb R hR=>by
       rw[hR,hb];exact Cp n s hl f ([]++[⟨kd,tx,nm,b,j⟩]) (j+k+dG (s.length+1) (s.drop (j+k))) m 0 (by simp) (by simp<;>omega) (by omega) (by omega) (by omega)
      generalize dG (s.length+1) (s.drop (j+k))=sk at *;have tkc:∀b:Bool,eB ([]++[(⟨kd,tx,nm,b,j⟩:Tok)])=eB []++[.int .i64 kd,.str tx,.int .i64 nm,.bool b,.int .i64 j]:=fun b=>wT _ _
      have hf2:∀b:Bool,AV.aq (eB []++[.int .i64 kd,.str tx,.int .i64 nm,.bool b,.int .i64 j])=0:=fun b=>by rw[←tkc];exact qQ _
      rcases hopn with⟨x1,x2⟩ | ⟨d,x1,x2⟩
      ·by_cases k1:kd=1
       ·obtain rfl:=k1;have k3':((64:Int) < (tx.length:Int))=False:=eq_false (by omega);refine key false (by simp[x1]) _ ?_;simp only[tkc,List.length_append,List.length_cons,List.length_nil,Nat.zero_add,Int.natCast_add,eB,List.flatMap_nil,List.flatMap_cons,List.append_nil,Tok.cells,List.nil_append,ju,jd];simp[ju,jd,dM,dz,dL,de,eU,aR,h6,q1,q2,n0,n2,k4',x2,k3']
       ·by_cases k2:kd=2
        ·obtain rfl:=k2;have k3':((64:Int) < (tx.length:Int))=False:=eq_false (by omega);refine key false (by simp[x1]) _ ?_;simp only[tkc,List.length_append,List.length_cons,List.length_nil,Nat.zero_add,Int.natCast_add,eB,List.flatMap_nil,List.flatMap_cons,List.append_nil,Tok.cells,List.nil_append,ju,jd];simp[ju,jd,dM,dz,dL,de,eU,aR,h6,q1,q2,n0,n2,k4',x2,k3']
        ·refine key false (by simp[x1]) _ ?_;simp only[tkc,List.length_append,List.length_cons,List.length_nil,Nat.zero_add,Int.natCast_add,eB,List.flatMap_nil,List.flatMap_cons,List.append_nil,Tok.cells,List.nil_append,ju,jd];simp[ju,jd,dM,dz,dL,de,eU,aR,h6,q1,q2,n0,n2,k4',x2,k1,k2]
      ·by_cases k40:d.toNat=40
       ·have k40':((d.toNat:Int)=40)=True:=eq_true (by omega);by_cases k1:kd=1
        ·obtain rfl:=k1;have k3':((64:Int) < (tx.length:Int))=False:=eq_false (by omega);refine key true (by simp[x1,k40]) _ ?_;simp only[tkc,List.length_append,List.length_cons,List.length_nil,Nat.zero_add,Int.natCast_add,eB,List.flatMap_nil,List.flatMap_cons,List.append_nil,Tok.cells,List.nil_append,ju,jd];simp[ju,jd,dM,dz,dL,de,eU,aR,h6,q1,q2,n0,n2,k4',x1,x2,k40',k3']
        ·by_cases k2:kd=2
         ·obtain rfl:=k2;have k3':((64:Int) < (tx.length:Int))=False:=eq_false (by omega);refine key true (by simp[x1,k40]) _ ?_;simp only[tkc,List.length_append,List.length_cons,List.length_nil,Nat.zero_add,Int.natCast_add,eB,List.flatMap_nil,List.flatMap_cons,List.append_nil,Tok.cells,List.nil_append,ju,jd];simp[ju,jd,dM,dz,dL,de,eU,aR,h6,q1,q2,n0,n2,k4',x1,x2,k40',k3']
         ·refine key true (by simp[x1,k40]) _ ?_;simp only[tkc,List.length_append,List.length_cons,List.length_nil,Nat.zero_add,Int.natCast_add,eB,List.flatMap_nil,List.flatMap_cons,List.append_nil,Tok.cells,List.nil_append,ju,jd];simp[ju,jd,dM,dz,dL,de,eU,aR,h6,q1,q2,n0,n2,k4',x1,x2,k40',k1,k2]
       ·have k40':((d.toNat:Int)=40)=False:=eq_false (by omega);by_cases k1:kd=1
        ·obtain rfl:=k1;have k3':((64:Int) < (tx.length:Int))=False:=eq_false (by omega);refine key false (by simp[x1,k40]) _ ?_;simp only[tkc,List.length_append,List.length_cons,List.length_nil,Nat.zero_add,Int.natCast_add,eB,List.flatMap_nil,List.flatMap_cons,List.append_nil,Tok.cells,List.nil_append,ju,jd];simp[ju,jd,dM,dz,dL,de,eU,aR,h6,q1,q2,n0,n2,k4',x1,x2,k40',k3']
        ·by_cases k2:kd=2
         ·obtain rfl:=k2;have k3':((64:Int) < (tx.length:Int))=False:=eq_false (by omega);refine key false (by simp[x1,k40]) _ ?_;simp only[tkc,List.length_append,List.length_cons,List.length_nil,Nat.zero_add,Int.natCast_add,eB,List.flatMap_nil,List.flatMap_cons,List.append_nil,Tok.cells,List.nil_append,ju,jd];simp[ju,jd,dM,dz,dL,de,eU,aR,h6,q1,q2,n0,n2,k4',x1,x2,k40',k3']
         ·refine key false (by simp[x1,k40]) _ ?_;simp only[tkc,List.length_append,List.length_cons,List.length_nil,Nat.zero_add,Int.natCast_add,eB,List.flatMap_nil,List.flatMap_cons,List.append_nil,Tok.cells,List.nil_append,ju,jd];simp[ju,jd,dM,dz,dL,de,eU,aR,h6,q1,q2,n0,n2,k4',x1,x2,k40',k1,k2]
    ·rw[if_pos e0];refine⟨0,.inr ⟨e0,rfl,(j+k:Nat),?_⟩⟩;simp[ju,jd,dM,dz,dL,de,eU,aR,h6,q1,e0]
def sj (l:List Tok):AV:=match l with
 | []=>.aA
 | _=>.sl (l.map Tok.enc)
def u4 (r:List Tok×Int×Int):AV:=.tuple [sj r.1,.int .i64 r.2.1,.int .i64 r.2.2]
theorem Ds (l:List Tok):(sj l).refs=0:=by
 cases l with
 | nil=>rfl
 | cons x r=>rfl
theorem M9 (s:List UInt8):∃h',az (bh ju jd) (s.length+4) 15 [.str s] h0=some (u4 (dn s),h')∧(u4 (dn s)).refs=0:=by
 have hrefs:∀r:List Tok×Int×Int,(u4 r).refs=0:=fun r=>by simp[u4,AV.refs,AV.aq,Ds]
 refine Exists.elim ?_ fun h' hh=>⟨h',hh,hrefs _⟩
 unfold dn;by_cases hl:4096 < s.length
 ·have h1:((4096:Int) < (s.length:Int))=True:=eq_true (by omega);rw[if_pos hl];exact⟨_,by simp[ju,jd,Ai,Oj,h1,u4,sj,dL,de];rfl⟩
 have h1:((4096:Int) < (s.length:Int))=False:=eq_false (by omega);rw[if_neg hl];have q2:=wy s 0 (by omega) (by omega);have hsk:=jg (s.length+1) s;simp only[List.drop_zero,Nat.zero_add] at q2;have q2':xy.S [.ptr 0 0] [.row [.str s,.int .i64 0]]=some (.tuple [],some [.row [.str s,.int .i64 (dG (s.length+1) s:Nat)]]):=q2;have lp:=HH (s.length+2) s (by omega) (s.length+1) (dG (s.length+1) s) (s.length+3) 0 hsk (by omega) (by omega);generalize n7 (s.length+1) s (dG (s.length+1) s) []=R at *;obtain⟨l,at_,e⟩:=R;simp only[ju,jd,dz,vV] at lp;obtain⟨md,⟨e1,e2,e3⟩ | ⟨e1,e2,x,e3⟩⟩:=lp
 ·dsimp only at e1 e2 e3;subst e1 e2
  cases l with
  | nil=>
    simp only[vK,hK] at e3;exact⟨_,by simp[ju,jd,Ai,Oj,dz,h1,u4,sj,q2',dL,de,e3];with_reducible rfl⟩
  | cons t r=>
    simp only[vK,hK] at e3;have fk:∀d,hZ ⟨2,[.row (eB (t::r)),.row [.str s,.int .i64 s.length]],0,md⟩ 0 (d+2) (.vec 1 0 (r.length+1) 5 (r.length+1))=some (.sl ((t::r).map Tok.enc),[1]):=fun d=>SZ t r (Nat.zero_le 1) rfl
    have rf:=G0 (t::r);rw[List.map_cons,AV.aq] at rf;exact⟨_,by simp[ju,jd,Ai,Oj,dz,h1,u4,sj,q2',dL,de,e3,fk,rf,-lH];with_reducible rfl⟩
 ·dsimp only at e1 e2 e3;subst e2;exact⟨_,by simp[ju,jd,Ai,Oj,dz,h1,u4,sj,q2',dL,de,e3];with_reducible rfl⟩
noncomputable def GZ:aS:=⟨15,fun
 | [.str s]=>some (u4 (dn s))
 | _=>none⟩
theorem dI:GZ.f=15:=(rfl)
theorem FJ (s:List UInt8):GZ.S [.str s]=some (u4 (dn s)):=(rfl)
theorem FK:eR Tryz.prog cq GZ:=fun args v hv=>by
 unfold GZ at hv ⊢;dsimp only at hv ⊢;split at hv
 ·rename_i s;cases hv;obtain⟨h',e,hr⟩:=M9 s;exact cB (eV (ss:=ju) (by simp[ju]) Pb) e hr (by simp[AV.refs,AV.aq])
 ·cases hv
structure bO where
 n:List UInt8
 k:List UInt8
 l:Int
def bO.cells (o:bO):List AV:=[.str o.n,.str o.k,.int .i64 o.l]
def bO.enc (o:bO):AV:=.agg o.cells
def lF:AV→Option bO
 | .agg [.str a,.str b,.int .i64 l]=>some ⟨a,b,l⟩
 | _=>none
def lM:List AV→Option (List bO)
 | []=>some []
 | v::r=>match lF v,lM r with
   | some o,some os=>some (o::os)
   | _,_=>none
theorem EG (o:bO):lF o.enc=some o:=rfl
theorem l4:∀l:List bO,lM (l.map bO.enc)=some l
 | []=>rfl
 | o::r=>by
   show (match lF o.enc,lM (r.map bO.enc) with | some o,some os=>some (o::os) | _,_=>none)=_;rw[EG,l4 r]
theorem jV {v:AV} {o:bO} (h:lF v=some o):v=o.enc:=by
 unfold lF at h;split at h
 ·cases h;rfl
 ·cases h
theorem nF:∀{vs:List AV} {l:List bO},lM vs=some l→vs=l.map bO.enc
 | [],l,h=>by cases h;rfl
 | v::r,l,h=>by
   unfold lM at h;split at h
   ·rename_i o os h1 h2;cases h;rw[jV h1,nF h2];rfl
   ·cases h
theorem gr:∀l:List bO,AV.aq (l.map bO.enc)=0
 | []=>rfl
 | o::r=>by simp[AV.aq,gr r,bO.enc,bO.cells,AV.refs]
theorem H4 (l:List bO):∀x ∈ l.map bO.enc,xM 3 x:=by
 intro x hx;obtain⟨o,_,rfl⟩:=List.mem_map.1 hx;exact⟨rfl,rfl,(fun h=>by cases h),fun _=>rfl,rfl⟩
def mb (b:List UInt8):Bool:=b==[102,121]||b==[102,120]
def oJ (b:List UInt8):Bool:=b==[120,102,120]||b==[120,102,121]||b==[121,102,120]
def oB:aS:=⟨106,fun | [v]=>(lF v).map fun o=>.bool (mb o.k) | _=>none⟩
theorem fK:oB.f=106:=(rfl)
theorem pI (a b:List UInt8) (l:Int):oB.S [.agg [.str a,.str b,.int .i64 l]]=some (.bool (mb b)):=(rfl)
theorem tN:bC Tryz.prog oB:=fun args v hv=>by
 unfold oB at hv ⊢;dsimp only at hv ⊢;split at hv
 ·rename_i x;obtain⟨o,ho,rfl⟩:=Option.map_eq_some_iff.1 hv;rw[jV ho];refine cB (n:=5) (h':=h0) (cf (ss:=[]) (by simp)) ?_ rfl (by simp[AV.aq,AV.refs,bO.enc,bO.cells]);obtain⟨a,b,l⟩:=o;cases e1:b==[102,121]<;>cases e2:b==[102,120]<;>simp[Oo,LL,mb,bO.enc,bO.cells,e1,e2]
 ·cases hv
def ov:aS:=⟨158,fun | [v]=>(lF v).map fun o=>.bool (oJ o.k) | _=>none⟩
theorem gS:ov.f=158:=(rfl)
theorem Bu (a b:List UInt8) (l:Int):ov.S [.agg [.str a,.str b,.int .i64 l]]=some (.bool (oJ b)):=(rfl)
theorem Br:bC Tryz.prog ov:=fun args v hv=>by
 unfold ov at hv ⊢;dsimp only at hv ⊢;split at hv
 ·rename_i x;obtain⟨o,ho,rfl⟩:=Option.map_eq_some_iff.1 hv;rw[jV ho];refine cB (n:=5) (h':=h0) (cf (ss:=[]) (by simp)) ?_ rfl (by simp[AV.aq,AV.refs,bO.enc,bO.cells]);obtain⟨a,b,l⟩:=o;cases e1:b==[120,102,120]<;>cases e2:b==[120,102,121]<;>cases e3:b==[121,102,120]<;>simp[PM,M0,oJ,bO.enc,bO.cells,e1,e2,e3]
 ·cases hv
def oe (a b:List UInt8) (l:Int):Bool:=
 if a==[44] then b==[120,102,121]&&decide (l=1000)
 else if a==[] then false else if decide (64 < a.length) then false else if a==[124] then false else if a==[91,93] then false else if a==[123,125] then false
 else (oJ b||mb b)&&decide (1≤l)&&decide (l≤1200)
def EW:aS:=⟨118,fun | [v]=>(lF v).map fun o=>.bool (oe o.n o.k o.l) | _=>none⟩
theorem qz:EW.f=118:=(rfl)
theorem Nb (a b:List UInt8) (l:Int):EW.S [.agg [.str a,.str b,.int .i64 l]]=some (.bool (oe a b l)):=(rfl)
theorem LV:bC Tryz.prog EW:=fun args v hv=>by
 unfold EW at hv ⊢;dsimp only at hv ⊢;split at hv
 ·rename_i x;obtain⟨o,ho,rfl⟩:=Option.map_eq_some_iff.1 hv;rw[jV ho];refine cB (n:=20) (h':=h0) (cf (ss:=[oB,ov]) (by simp[tN,Br])) ?_ rfl (by simp[AV.aq,AV.refs,bO.enc,bO.cells]);obtain⟨a,b,l⟩:=o;have hA:=pI a b l;have hB:=Bu a b l
  have hl:decide ((64:Int) < (a.length:Int))=decide (64 < a.length):=by
   congr 1;exact propext ⟨fun h=>by omega,fun h=>by omega⟩
  cases e1:a==[44] with
  | true=>cases e2:b==[120,102,121]<;>simp[fK,gS,qI,xW,oe,bO.enc,bO.cells,e1,e2]
  | false=>
  cases e2:a==[] with
  | true=>simp[fK,gS,qI,xW,oe,bO.enc,bO.cells,e1,e2]
  | false=>
  cases e3:decide (64 < a.length) with
  | true=>simp[fK,gS,qI,xW,oe,bO.enc,bO.cells,e1,e2,e3,hl]
  | false=>
  cases e4:a==[124] with
  | true=>simp[fK,gS,qI,xW,oe,bO.enc,bO.cells,e1,e2,e3,hl,e4,zE,zN,c157,DA,rz,rC,aB]
  | false=>
  cases e5:a==[91,93] with
  | true=>simp[fK,gS,qI,xW,oe,bO.enc,bO.cells,e1,e2,e3,hl,e4,e5,zE,zN,c157,DA,rz,rC,aB,IntKind.wrap,IntKind.signed,IntKind.bits]
  | false=>
  cases e6:a==[123,125] with
  | true=>simp[fK,gS,qI,xW,oe,bO.enc,bO.cells,e1,e2,e3,hl,e4,e5,e6,zE,zN,c157,DA,rz,rC,aB,IntKind.wrap,IntKind.signed,IntKind.bits]
  | false=>
  cases e7:oJ b<;>cases e8:mb b<;>cases e9:decide (1≤l)<;>simp only[e7,e8] at hA hB<;>
   simp[fK,gS,qI,xW,oe,bO.enc,bO.cells,e1,e2,e3,hl,e4,e5,e6,e7,e8,e9,hA,hB,fK,gS,zE,zN,c157,DA,rz,rC,aB,IntKind.wrap,IntKind.signed,IntKind.bits]
 ·cases hv
def j5 {α:Type} (p:α→Bool):List α→Option Nat
 | []=>none
 | x::r=>if p x then some 0 else (j5 p r).map (·+1)
theorem wg {α:Type} {p:α→Bool}:∀{l:List α} {i:Nat},j5 p l=some i→i < l.length
 | [],i,h=>by cases h
 | x::r,i,h=>by
   simp only[j5] at h;split at h
   ·cases h;simp
   ·obtain⟨j,hj,rfl⟩:=Option.map_eq_some_iff.1 h;have:=wg hj;simp;omega
def qO (a b:bO):Bool:=a.n==b.n&&mb a.k==mb b.k
def qK:aS:=⟨117,fun | [v,w]=>(match lF v,lF w with | some a,some b=>some (.bool (qO a b)) | _,_=>none) | _=>none⟩
theorem lf:qK.f=117:=(rfl)
theorem HJ (a b:List UInt8) (l:Int) (a' b':List UInt8) (l':Int):qK.S [.agg [.str a,.str b,.int .i64 l],.agg [.str a',.str b',.int .i64 l']]=some (.bool (qO ⟨a,b,l⟩ ⟨a',b',l'⟩)):=(rfl)
theorem It:bC Tryz.prog qK:=fun args v hv=>by
 unfold qK at hv ⊢;dsimp only at hv ⊢;split at hv
 ·rename_i x y;split at hv
  ·rename_i o p h1 h2;cases hv;rw[jV h1,jV h2];refine cB (n:=5) (h':=h0) (cf (ss:=[oB]) (by simp[tN])) ?_ rfl (by simp[AV.aq,AV.refs,bO.enc,bO.cells]);obtain⟨a,b,l⟩:=o;obtain⟨a',b',l'⟩:=p;have hA:=pI a b l;have hB:=pI a' b' l';cases e1:a==a'<;>simp[O2,c117,bO.enc,bO.cells,qO,e1,hA,hB,fK]
  ·cases hv
 ·cases hv
theorem yI (C:Nat→List AV→aa→Option (AV×aa)) (n:Nat) (l:List bO) (g:Nat) (caps:List AV) (hn:Nat) (os:List bj) (p:bO→Bool) (hcap:AV.aq caps≤hn) (hl:l.length < 4611686018427387904)
 (hg:∀o ∈ l,C g (.agg [.str o.n,.str o.k,.int .i64 o.l]::caps) ⟨hn,os,hn,hn⟩=some (.bool (p o),⟨hn,os,hn,hn⟩)):∀post pre m,l=pre++post→post.length < m→
 cO (aT C n pf) lO hn m (Mg (.sl (l.map bO.enc)) (.fn g caps) (.int .i64 l.length) (.int .i64 pre.length)) ⟨hn,os,hn,hn⟩=
  match j5 p post with
  | some i=>some (.ret,FM 19 [(4,.int .i64 (pre.length+i:Nat))],⟨hn,os,hn,hn⟩)
  | none=>some (.exit 0,FM 19 [],⟨hn,os,hn,hn⟩)
 | [],pre,m+1,e,_=>by
   subst e;have h5:AV.aq (pre.map bO.enc)=0:=gr _;simp[j5,aB,pf,h5]
 | o::post,pre,m+1,e,hm=>by
   have ho:=hg o (by simp[e]);have ih:=yI C n l g caps hn os p hcap hl hg post (pre++[o]) m (by simp[e]) (by rw[List.length_cons] at hm;omega);have h1:l[pre.length]? =some o:=by rw[e];simp
   have h3:IntKind.i64.wrap ((pre.length:Int)+1)=(pre.length:Int)+1:=by
    rw[tO (by rw[e] at hl;simp at hl;omega)];simp
   have h4:o.enc=.agg [.str o.n,.str o.k,.int .i64 o.l]:=rfl;have h5:AV.aq (l.map bO.enc)=0:=gr l;have h6:((pre.length:Int) < (l.length:Int))=True:=eq_true (by rw[e,List.length_append,List.length_cons];omega);simp only[List.length_append,List.length_cons,List.length_nil,Nat.zero_add,Int.natCast_add,Int.natCast_one] at ih;rw[aB]
   cases hp:p o with
   | true=>
     rw[hp] at ho;simp[j5,pf,lO,ho,h1,h3,h4,h5,h6,hp,hcap]
   | false=>
     rw[hp] at ho;simp[j5,pf,lO,ho,h1,h3,h4,h5,h6,hp,hcap];refine Eq.trans ih ?_
     cases j5 p post with
     | none=>rfl
     | some i=>
       show some (Ex.ret,FM 19 [(4,AV.int .i64 ((pre.length+1+i:Nat):Int))],_)=some (Ex.ret,FM 19 [(4,AV.int .i64 ((pre.length+(i+1):Nat):Int))],_);rw[show pre.length+(i+1)=pre.length+1+i by omega]
def A0:Option Nat→Int
 | some i=>i
 | none=>-1
theorem p8 (ss:List aS) (n:Nat) (l:List bO) (g:Nat) (caps:List AV) (hn:Nat) (os:List bj) (wl md:Nat) (p:bO→Bool) (hcap:AV.aq caps≤hn) (hl:l.length < 4611686018427387904) (hm:l.length < n)
 (hg:∀o ∈ l,az (ew ss) n g (.agg [.str o.n,.str o.k,.int .i64 o.l]::caps) ⟨hn,os,hn,hn⟩=some (.bool (p o),⟨hn,os,hn,hn⟩)):
 eI ss n 104 [.sl (l.map bO.enc),.fn g caps] ⟨hn,os,wl,md⟩=some (.int .i64 (A0 (j5 p l)),⟨hn,os,wl,md⟩):=by
 have h:=yI (az (ew ss) n) n l g caps hn os p hcap hl hg l [] n rfl hm;simp only[List.length_nil,lO,Int.natCast_zero] at h;have h5:AV.aq (l.map bO.enc)=0:=gr l
 cases hf:j5 p l with
 | none=>
   rw[hf] at h;simp[Db,HY,lO,h5,hcap,h,A0]
 | some i=>
   rw[hf] at h;simp only[Nat.zero_add] at h;simp[Db,HY,lO,h5,hcap,h,A0]
def og:List bO→List bO→Bool
 | _,[]=>true
 | pre,o::post=>if !oe o.n o.k o.l then false else if (j5 (fun x=>qO x o) pre).isSome then false else og (pre++[o]) post
def iq (l:List bO):Bool:=decide (l.length≤128)&&og [] l
theorem Bf (l:List bO) (n:Nat) (hl:l.length < 4611686018427387904) (hn:l.length < n):∀post pre m,l=pre++post→post.length < m→
 ∃md,jf 1 0 (cO (aT (az (ew [EW,qK]) (n+10)) (n+10) qy) nC 1 m (JW (.ptr 0 0) (.sl (l.map bO.enc)) (.int .i64 l.length) (.int .i64 pre.length)) ⟨1,[.row [.sl (l.map bO.enc)]],1,0⟩)=
   some (if og pre post then .exit 0 else .ret,if og pre post then FM 31 [] else FM 31 [(2,.bool false)],⟨1,[.row [.sl (l.map bO.enc)]],0,md⟩)
 | [],pre,m+1,e,_=>by
   subst e;exact⟨0,by simp[og,aB,qy]⟩
 | o::post,pre,m+1,e,hm=>by
   obtain⟨md,ih⟩:=Bf l n hl hn post (pre++[o]) m (by simp[e]) (by rw[List.length_cons] at hm;omega);refine⟨if !oe o.n o.k o.l then 0 else if (j5 (fun x=>qO x o) pre).isSome then 0 else md,?_⟩;have h1:l[pre.length]? =some o:=by rw[e];simp
   have h3:IntKind.i64.wrap ((pre.length:Int)+1)=(pre.length:Int)+1:=by
    rw[tO (by rw[e] at hl;simp at hl;omega)];simp
   have h4:o.enc=.agg [.str o.n,.str o.k,.int .i64 o.l]:=rfl;have h5:AV.aq (l.map bO.enc)=0:=gr l;have h6:((pre.length:Int) < (l.length:Int))=True:=eq_true (by rw[e,List.length_append,List.length_cons];omega);have h7:l.take pre.length=pre:=by rw[e];simp
   have h8:=Bm (H4 l);have h9:pre.length≤l.length:=by rw[e];simp
   have hM:=Nb o.n o.k o.l
   have hf:=p8 [EW,qK] (n+8) pre 116 [.ptr 1 0] 2 [.row [.str o.n,.str o.k,.int .i64 o.l],.row [.sl (l.map bO.enc)]] 2 2 (fun x=>qO x o) (by simp[AV.aq,AV.refs]) (by omega) (by omega)
    (fun x hx=>by
     have hA:=HJ x.n x.k x.l o.n o.k o.l;simp[Pm,c116,hA,lf,qz])
   simp only[List.length_append,List.length_cons,List.length_nil,Nat.zero_add,Int.natCast_add,Int.natCast_one] at ih;rw[aB]
   cases hm:oe o.n o.k o.l with
   | false=>
     rw[hm] at hM;simp[og,qy,nC,h1,h3,h4,h5,h6,hm,hM,qz,lf]
   | true=>
     rw[hm] at hM
     cases hs:j5 (fun x=>qO x o) pre with
     | none=>
       rw[hs] at hf;simp[og,qy,nC,h1,h3,h4,h5,h6,hm,hM,hs,h8,h9,h7,hf,A0,qz,lf,fM,sliceB,La,c119,←List.map_take];exact ih
     | some i=>
       rw[hs] at hf;simp[og,qy,nC,h1,h3,h4,h5,h6,hm,hM,hs,h8,h9,h7,hf,A0,qz,lf,fM,sliceB,La,c119,←List.map_take]
def mY:aS:=⟨70,fun | [.agg [.sl xs]]=>(match lM xs with | some l=>if l.length < 4611686018427387904 then some (.bool (iq l)) else none | none=>none) | _=>none⟩
theorem po:mY.f=70:=(rfl)
theorem xp (l:List bO) (h:l.length < 4611686018427387904):mY.S [.agg [.sl (l.map bO.enc)]]=some (.bool (iq l)):=by
 simp only[mY,l4,if_pos h]
theorem vT:bC Tryz.prog mY:=fun args v hv=>by
 unfold mY at hv ⊢;dsimp only at hv ⊢;split at hv
 ·rename_i xs;split at hv
  ·rename_i l hd;split at hv
   ·rename_i hl;cases hv;rw[nF hd];refine cB (n:=l.length+12) (h':=h0) (cf (ss:=[EW,qK]) (by simp[LV,It])) ?_ rfl (by simp[AV.aq,AV.refs,gr]);have h5:AV.aq (l.map bO.enc)=0:=gr l;by_cases h:l.length≤128
    ·obtain⟨md,e⟩:=Bf l (l.length+1) hl (by omega) l [] (l.length+11) rfl (by omega);simp only[List.length_nil,nC,JW,Int.natCast_zero] at e;have hd:((128:Int) < (l.length:Int))=False:=eq_false (by omega)
     cases hg:og [] l with
     | true=>
       rw[hg] at e;simp only[if_true] at e;simp[Gb,c70,nC,h5,e,iq,h,hd,hg,qz,lf]
     | false=>
       rw[hg] at e;simp only[Bool.false_eq_true,if_false] at e;simp[Gb,c70,nC,h5,e,iq,h,hd,hg,qz,lf]
    ·have hd:((128:Int) < (l.length:Int))=True:=eq_true (by omega);simp[Gb,c70,iq,h,hd,qz,lf]
   ·cases hv
  ·cases hv
 ·cases hv
def gG:bO:=⟨[],[],0⟩
def cd (l:List bO) (name:List UInt8) (ahead:Bool):bO×Bool:=
 match j5 (fun o=>o.n==name&&mb o.k==ahead) l with
 | none=>(gG,false)
 | some i=>if iq l then (l.getD i gG,true) else (gG,false)
def FO:aS:=⟨63,fun | [.agg [.sl xs],.str s,.bool b]=>(match lM xs with | some l=>if l.length < 4611686018427387904 then some (.tuple [(cd l s b).1.enc,.bool (cd l s b).2]) else none | none=>none) | _=>none⟩
theorem Ka (l:List bO) (s:List UInt8) (b:Bool) (h:l.length < 4611686018427387904):FO.S [.agg [.sl (l.map bO.enc)],.str s,.bool b]=some (.tuple [(cd l s b).1.enc,.bool (cd l s b).2]):=by
 simp only[FO,l4,if_pos h]
theorem Je:bC Tryz.prog FO:=fun args v hv=>by
 unfold FO at hv ⊢;dsimp only at hv ⊢;split at hv
 ·rename_i xs s b;split at hv
  ·rename_i l hd;split at hv
   ·rename_i hl;cases hv;rw[nF hd];refine cB (n:=l.length+12) (h':=h0) (cf (ss:=[oB,mY]) (by simp[tN,vT])) ?_ (by simp[AV.refs,AV.aq,bO.enc,bO.cells]) (by simp[AV.aq,AV.refs,gr]);have h5:AV.aq (l.map bO.enc)=0:=gr l
    have hf:=p8 [oB,mY] (l.length+10) l 105 [.ptr 1 0,.ptr 2 0] 4 [.row [.str [],.str [],.int .i64 0],.row [.bool b],.row [.str s],.row [.sl (l.map bO.enc)]] 0 0 (fun o=>o.n==s&&mb o.k==b) (by simp[AV.aq,AV.refs]) hl (by omega)
     (fun x hx=>by
      have hA:=pI x.n x.k x.l;cases e1:x.n==s<;>simp[Qu,c105,e1,hA,fK,po])
    have hg:=xp l hl
    cases hs:j5 (fun o=>o.n==s&&mb o.k==b) l with
    | none=>
      rw[hs] at hf;simp[F8,QJ,hf,cd,hs,bO.enc,bO.cells,gG,A0,fK,po]
    | some i=>
      rw[hs] at hf;have hi:=wg hs;have h1:l[i]? =some l[i]:=List.getElem?_eq_getElem hi;have h4:l[i].enc=.agg [.str l[i].n,.str l[i].k,.int .i64 l[i].l]:=rfl;have hne:((i:Int) < 0)=False:=eq_false (by omega);have hgd:l.getD i gG=l[i]:=by simp[List.getD,h1]
      cases hgk:iq l with
      | false=>
        rw[hgk] at hg;simp[F8,QJ,hf,cd,hs,bO.enc,bO.cells,gG,hg,hgk,hne,A0,fK,po]
      | true=>
        rw[hgk] at hg;simp[F8,QJ,hf,cd,hs,hg,hgk,h1,h4,hne,hgd,A0,fK,po]
   ·cases hv
  ·cases hv
 ·cases hv
def bx:AV→Option (List bO)
 | .aA=>some []
 | .sl xs=>lM xs
 | _=>none
theorem jR {x:AV} {l:List bO} (h:bx x=some l):(x=.aA∧l=[])∨x=.sl (l.map bO.enc):=by
 cases x<;>simp[bx] at h
 ·exact .inl ⟨rfl,h⟩
 ·exact .inr (by rw[nF h])
theorem l6 {x:AV} {l:List bO} (h:bx x=some l):x.refs=0:=by
 rcases jR h with⟨rfl,_⟩ | rfl
 ·rfl
 ·simp[AV.refs,gr]
theorem pN (l:List bO):bx (.sl (l.map bO.enc))=some l:=l4 l
def EU:aS:=⟨70,fun | [.agg [.aA]]=>some (.bool true) | _=>none⟩
theorem GS:EU.S [.agg [.aA]]=some (.bool true):=(rfl)
theorem HM:bC Tryz.prog EU:=fun args v hv=>by
 unfold EU at hv ⊢;dsimp only at hv ⊢;split at hv
 ·cases hv;refine cB (n:=10) (h':=h0) (cf (ss:=[]) (by simp)) ?_ rfl rfl;simp[Gb,c70,nC,qy,aB]
 ·cases hv
def Eu:aS:=⟨63,fun | [.agg [.aA],.str _,.bool _]=>some (.tuple [gG.enc,.bool false]) | _=>none⟩
theorem Hq (s:List UInt8) (b:Bool):Eu.S [.agg [.aA],.str s,.bool b]=some (.tuple [gG.enc,.bool false]):=(rfl)
theorem GX:bC Tryz.prog Eu:=fun args v hv=>by
 unfold Eu at hv ⊢;dsimp only at hv ⊢;split at hv
 ·cases hv;refine cB (n:=10) (h':=h0) (cf (ss:=[]) (by simp)) ?_ rfl (by simp[AV.aq,AV.refs]);simp[F8,QJ,Db,HY,lO,pf,aB,gG,bO.enc,bO.cells]
 ·cases hv
def nu:aS:=⟨70,fun | [.agg [x]]=>(match bx x with | some l=>if l.length < 4611686018427387904 then some (.bool (iq l)) else none | none=>none) | _=>none⟩
theorem bW:nu.f=70:=(rfl)
theorem wJ {x:AV} {l:List bO} (hx:bx x=some l) (h:l.length < 4611686018427387904):nu.S [.agg [x]]=some (.bool (iq l)):=by
 simp only[nu,hx,if_pos h]
theorem xt:bC Tryz.prog nu:=fun args v hv=>by
 unfold nu at hv ⊢;dsimp only at hv ⊢;split at hv
 ·split at hv
  ·rename_i l hd;split at hv
   ·rename_i hl;cases hv;rcases jR hd with⟨rfl,rfl⟩ | rfl
    ·exact HM _ _ GS
    ·exact vT _ _ (xp l hl)
   ·cases hv
  ·cases hv
 ·cases hv
def qL:aS:=⟨63,fun | [.agg [x],.str s,.bool b]=>(match bx x with | some l=>if l.length < 4611686018427387904 then some (.tuple [(cd l s b).1.enc,.bool (cd l s b).2]) else none | none=>none) | _=>none⟩
theorem rO:qL.f=63:=(rfl)
theorem yj {x:AV} {l:List bO} (hx:bx x=some l) (s:List UInt8) (b:Bool) (h:l.length < 4611686018427387904):qL.S [.agg [x],.str s,.bool b]=some (.tuple [(cd l s b).1.enc,.bool (cd l s b).2]):=by
 simp only[qL,hx,if_pos h]
theorem yQ:bC Tryz.prog qL:=fun args v hv=>by
 unfold qL at hv ⊢;dsimp only at hv ⊢;split at hv
 ·split at hv
  ·rename_i l hd;split at hv
   ·rename_i hl;cases hv;rcases jR hd with⟨rfl,rfl⟩ | rfl
    ·exact GX _ _ (Hq _ _)
    ·exact Je _ _ (Ka l _ _ hl)
   ·cases hv
  ·cases hv
 ·cases hv
def Fo:aS:=⟨29,fun | [.agg [x],.str s]=>(match bx x with | some l=>if l.length < 4611686018427387904 then some (.tuple [(cd l s false).1.enc,.bool (cd l s false).2]) else none | none=>none) | _=>none⟩
theorem eW:Fo.f=29:=(rfl)
theorem Ae {x:AV} {l:List bO} (hx:bx x=some l) (s:List UInt8) (h:l.length < 4611686018427387904):Fo.S [.agg [x],.str s]=some (.tuple [(cd l s false).1.enc,.bool (cd l s false).2]):=by
 simp only[Fo,hx,if_pos h]
theorem De:bC Tryz.prog Fo:=fun args v hv=>by
 unfold Fo at hv ⊢;dsimp only at hv ⊢;split at hv
 ·rename_i x s;split at hv
  ·rename_i l hd;split at hv
   ·rename_i hl;cases hv;have hr:=l6 hd;refine cB (n:=6) (h':=h0) (cf (ss:=[qL]) (by simp[yQ])) ?_ (by simp[AV.refs,AV.aq,bO.enc,bO.cells]) (by simp[AV.aq,AV.refs,hr]);have q:=yj hd s false hl;simp only[bO.enc,bO.cells] at q ⊢;rcases jR hd with⟨rfl,rfl⟩ | rfl
    ·simp[NT,R6,rO,q]
    ·simp[NT,R6,rO,q]
   ·cases hv
  ·cases hv
 ·cases hv
def n5:aS:=⟨30,fun | [.agg [x],.str s]=>(match bx x with | some l=>if l.length < 4611686018427387904 then some (.tuple [(cd l s true).1.enc,.bool (cd l s true).2]) else none | none=>none) | _=>none⟩
theorem eM:n5.f=30:=(rfl)
theorem zL {x:AV} {l:List bO} (hx:bx x=some l) (s:List UInt8) (h:l.length < 4611686018427387904):n5.S [.agg [x],.str s]=some (.tuple [(cd l s true).1.enc,.bool (cd l s true).2]):=by
 simp only[n5,hx,if_pos h]
theorem Ge:bC Tryz.prog n5:=fun args v hv=>by
 unfold n5 at hv ⊢;dsimp only at hv ⊢;split at hv
 ·rename_i x s;split at hv
  ·rename_i l hd;split at hv
   ·rename_i hl;cases hv;have hr:=l6 hd;refine cB (n:=6) (h':=h0) (cf (ss:=[qL]) (by simp[yQ])) ?_ (by simp[AV.refs,AV.aq,bO.enc,bO.cells]) (by simp[AV.aq,AV.refs,hr]);have q:=yj hd s true hl;simp only[bO.enc,bO.cells] at q ⊢;rcases jR hd with⟨rfl,rfl⟩ | rfl
    ·simp[NZ,SY,rO,q]
    ·simp[NZ,SY,rO,q]
   ·cases hv
  ·cases hv
 ·cases hv
def a7 (o:bO):Int×Int:=
 if o.k=[120,102,120] then (o.l - 1,o.l - 1) else if o.k=[120,102,121] then (o.l - 1,o.l) else if o.k=[121,102,120] then (o.l,o.l - 1)
 else if o.k=[102,121] then (0,o.l) else if o.k=[102,120] then (0,o.l - 1) else (0,0)
def uk:aS:=⟨122,fun | [v]=>(match lF v with | some o=>if 0≤o.l∧o.l≤1200 then some (.tuple [.int .i64 (a7 o).1,.int .i64 (a7 o).2]) else none | none=>none) | _=>none⟩
theorem bL:uk.f=122:=(rfl)
theorem jK (o:bO) (h:0≤o.l∧o.l≤1200):uk.S [.agg [.str o.n,.str o.k,.int .i64 o.l]]=some (.tuple [.int .i64 (a7 o).1,.int .i64 (a7 o).2]):=if_pos h
theorem yo:bC Tryz.prog uk:=fun args v hv=>by
 unfold uk at hv ⊢;dsimp only at hv ⊢;split at hv
 ·rename_i x;split at hv
  ·rename_i o hd;split at hv
   ·rename_i hl;cases hv;rw[jV hd];refine cB (n:=6) (h':=h0) (cf (ss:=[]) (by simp)) ?_ (by simp[AV.refs,AV.aq]) (by simp[AV.aq,AV.refs,bO.enc,bO.cells]);have w:IntKind.i64.wrap (o.l - 1)=o.l - 1:=wrap_i64 (by omega) (by omega);obtain⟨n,k,l⟩:=o;dsimp only at w;have hb:∀a b:List UInt8,a≠b→(a==b)=false:=fun a b h=>by simpa using h
    unfold a7;dsimp only;by_cases h1:k=[120,102,120]
    ·subst h1;simp[tB,Ag,bO.enc,bO.cells,w]
    rw[if_neg h1];have e1:=hb _ _ h1;by_cases h2:k=[120,102,121]
    ·subst h2;simp[tB,Ag,bO.enc,bO.cells,w]
    rw[if_neg h2];have e2:=hb _ _ h2;by_cases h3:k=[121,102,120]
    ·subst h3;simp[tB,Ag,bO.enc,bO.cells,w]
    rw[if_neg h3];have e3:=hb _ _ h3;by_cases h4:k=[102,121]
    ·subst h4;simp[tB,Ag,bO.enc,bO.cells,w]
    rw[if_neg h4];have e4:=hb _ _ h4;by_cases h5:k=[102,120]
    ·subst h5;simp[tB,Ag,bO.enc,bO.cells,w]
    rw[if_neg h5];have e5:=hb _ _ h5;simp[tB,Ag,bO.enc,bO.cells,w,h1,h2,h3,h4,h5,e1,e2,e3,e4,e5]
   ·cases hv
  ·cases hv
 ·cases hv
theorem Np {a b:List UInt8} {l:Int} (h:oe a b l=true):1≤l∧l≤1200:=by
 unfold oe at h;split at h
 ·simp only[Bool.and_eq_true,decide_eq_true_eq] at h;omega
 ·simp at h;omega
theorem yA:∀(post pre:List bO),og pre post=true→∀o ∈ post,oe o.n o.k o.l=true
 | [],_,_,o,h=>by simp at h
 | x::r,pre,hg,o,h=>by
   unfold og at hg
   cases hm:oe x.n x.k x.l with
   | false=>rw[hm] at hg;simp at hg
   | true=>
     rw[hm] at hg;simp only[Bool.not_true,Bool.false_eq_true,if_false] at hg;split at hg
     ·cases hg
     ·rcases List.mem_cons.1 h with rfl | h
      ·exact hm
      ·exact yA r _ hg o h
theorem IK {l:List bO} (h:iq l=true):∀o ∈ l,oe o.n o.k o.l=true:=by
 unfold iq at h;rw[Bool.and_eq_true] at h;exact yA l [] h.2
theorem tR (l:List bO) (s:List UInt8) (b:Bool):0≤(cd l s b).1.l∧(cd l s b).1.l≤1200:=by
 unfold cd;split
 ·exact⟨Int.le_refl 0,by simp[gG]⟩
 ·rename_i i hi;split
  ·rename_i hg;have hlt:=wg hi;have hd:l.getD i gG=l[i]:=by simp[List.getD,List.getElem?_eq_getElem hlt]
   dsimp only;rw[hd];have:=Np (IK hg l[i] (List.getElem_mem hlt));omega
  ·exact⟨Int.le_refl 0,by simp[gG]⟩
structure gk where
 kind:Int
 text:List UInt8
 num:Int
 ig:Bool
 Qt:Bool
def IQ:gk:=⟨0,[],0,false,false⟩
def MN (t:Tok):List Tok→Bool
 | []=>false
 | u::_=>decide (u.at_=t.at_+1)
def iO:List Tok→List gk
 | []=>[]
 | t::r=>⟨t.kind,t.text,t.num,t.ig,MN t r⟩::iO r
theorem eG:∀l,(iO l).length=l.length
 | []=>rfl
 | t::r=>by simp[iO,eG r]
theorem x9:∀(l:List Tok) (k:Nat),(iO l).drop k=iO (l.drop k)
 | [],k=>by simp[iO]
 | t::r,0=>rfl
 | t::r,k+1=>by
   show (iO r).drop k=iO (r.drop k);exact x9 r k
structure St where
 at_:Nat
 rest:List gk
 next:Nat
 names:List (List UInt8×Int)
def aQ (st:St):gk:=st.rest.headD IQ
def aC (st:St):St:=⟨st.at_+1,st.rest.tail,st.next,st.names⟩
def eN (x:gk):Bool:=decide (x.kind=1)||decide (x.kind=2)
def db (T:List bO) (x:gk):bO×Bool:=if !eN x&&(!decide (x.kind=5)||!decide (x.text=[44])) then (gG,false) else cd T x.text false
abbrev PR:=Tm×Int×Bool
def tg:Tm:=.nl 0 0 []
def ie (s:List UInt8):Tm:=.nl 2 0 s
def bb (s:List UInt8) (st:St):Bool×St:=if (aQ st).kind=5∧(aQ st).text=s then (true,aC st) else (false,st)
def nV (s:List UInt8):List (List UInt8×Int)→Option Int
 | []=>none
 | p::r=>if p.1=s then some p.2 else nV s r
def jc (s:List UInt8) (st:St):Tm×St:=match nV s st.names with
 | some n=>(.nl 0 n [],st)
 | none=>(.nl 0 st.next [],⟨st.at_,st.rest,st.next+1,if s=[95] then st.names else st.names++[(s,(st.next:Int))]⟩)
def fI (T:List bO) (st:St):Bool:=
 if (aQ st).kind=0∨(aQ st).kind=6 then false
 else if (aQ st).kind=5 then decide ((aQ st).text=[40])||decide ((aQ st).text=[91])||decide ((aQ st).text=[123])
 else if !eN (aQ st)||(aQ st).ig then true
 else !(cd T (aQ st).text false).2||(cd T (aQ st).text true).2
section
variable (rec:Int→St→PR×St)
def bw:Nat→List Tm→St→(List Tm×Bool)×St
 | 0,acc,st=>((acc,false),st)
 | M+1,acc,st=>
   if (rec 999 st).1.2.2 then
    (if (bb [44] (rec 999 st).2).1 then bw M (acc++[(rec 999 st).1.1]) (bb [44] (rec 999 st).2).2
     else ((acc++[(rec 999 st).1.1],true),(rec 999 st).2))
   else ((acc,false),(rec 999 st).2)
def gx (l:List Tm) (st:St):(Tm×Bool)×St:=
 if (bb [124] st).1 then
  (if (rec 999 (bb [124] st).2).1.2.2 then ((dO l (rec 999 (bb [124] st).2).1.1,(bb [93] (rec 999 (bb [124] st).2).2).1),(bb [93] (rec 999 (bb [124] st).2).2).2)
   else ((dO l (rec 999 (bb [124] st).2).1.1,false),(rec 999 (bb [124] st).2).2))
 else ((dO l (ie [91,93]),(bb [93] st).1),(bb [93] st).2)
def gm (M:Nat) (st:St):(Tm×Bool)×St:=
 if (bw rec M [] st).1.2 then gx rec (bw rec M [] st).1.1 (bw rec M [] st).2
 else ((ie [91,93],false),(bw rec M [] st).2)
def JC (T:List bO) (s:List UInt8):Int:=max (cd T s false).1.l (cd T s true).1.l
def ch (T:List bO) (x:gk) (n:Int) (st:St):PR×St:=
 if x.kind=2 then ((ie x.text,0,true),st)
 else if (cd T x.text true).2&&decide ((cd T x.text true).1.l≤n)&&fI T st then
  ((cm x.text [(rec (a7 (cd T x.text true).1).2 st).1.1],(cd T x.text true).1.l,(rec (a7 (cd T x.text true).1).2 st).1.2.2),(rec (a7 (cd T x.text true).1).2 st).2)
 else ((ie x.text,JC T x.text,decide (JC T x.text≤n)),st)
def eZ (c:List UInt8) (f:Tm→Tm) (st:St):PR×St:=
 if (rec 1200 st).1.2.2 then ((f (rec 1200 st).1.1,0,(bb c (rec 1200 st).2).1),(bb c (rec 1200 st).2).2)
 else ((f (rec 1200 st).1.1,0,false),(rec 1200 st).2)
def iC (M:Nat) (s:List UInt8) (st:St):PR×St:=
 if (bw rec M [] st).1.2 then ((cm s (bw rec M [] st).1.1,0,(bb [41] (bw rec M [] st).2).1),(bb [41] (bw rec M [] st).2).2)
 else ((cm s [],0,false),(bw rec M [] st).2)
def dQ (T:List bO) (M:Nat) (n:Int) (st:St):PR×St:=
 if (aQ st).kind=4 then ((.nl 1 (aQ st).num [],0,true),aC st)
 else if (aQ st).kind=3 then (((jc (aQ st).text (aC st)).1,0,true),(jc (aQ st).text (aC st)).2)
 else if (aQ st).kind=5∧(aQ st).text=[40] then eZ rec [41] (fun t=>t) (aC st)
 else if (aQ st).kind=5∧(aQ st).text=[91] then (((gm rec M (aC st)).1.1,0,(gm rec M (aC st)).1.2),(gm rec M (aC st)).2)
 else if (aQ st).kind=5∧(aQ st).text=[123] then eZ rec [125] (fun t=>cm [123,125] [t]) (aC st)
 else if !eN (aQ st) then ((tg,0,false),aC st)
 else if (aQ st).ig then iC rec M (aQ st).text (aC (aC st))
 else if (aQ st).kind=1∧(aQ st).text=[45]∧(aQ (aC st)).kind=4∧(aQ st).Qt=true then ((.nl 1 (-(aQ (aC st)).num) [],0,true),aC (aC st))
 else ch rec T (aQ st) n (aC st)
def dZ (T:List bO):Nat→Int→PR→St→PR×St
 | 0,_,r,st=>(r,st)
 | M+1,n,r,st=>
   if !r.2.2 then (r,st)
   else if !(db T (aQ st)).2||decide (n < (db T (aQ st)).1.l)||decide ((a7 (db T (aQ st)).1).1 < r.2.1) then (r,st)
   else dZ T M n (cm (aQ st).text [r.1,(rec (a7 (db T (aQ st)).1).2 (aC st)).1.1],(db T (aQ st)).1.l,(rec (a7 (db T (aQ st)).1).2 (aC st)).1.2.2) (rec (a7 (db T (aQ st)).1).2 (aC st)).2
end
def fE (T:List bO):Nat→Int→St→PR×St
 | 0,_,st=>((tg,0,false),st)
 | N+1,n,st=>dZ (fE T N) T (N+1) n (dQ (fE T N) T (N+1) n st).1 (dQ (fE T N) T (N+1) n st).2
theorem Ck {st:St} (h:st.rest=[]):aQ st=IQ:=by simp[aQ,h]
theorem cI (st:St):(aC st).rest.length=st.rest.length - 1:=by simp[aC]
theorem bN {st:St} (h:(aQ st).kind≠0):0 < st.rest.length:=by
 cases hr:st.rest with
 | nil=>exact absurd (by rw[Ck hr];rfl) h
 | cons x r=>simp
def sA (x:gk):Bool:=(decide (x.text.length≤64)||!eN x)&&(decide (0≤x.num)&&decide (x.num < 9223372036854775808))
def AA (l:List (List UInt8×Int)):Bool:=l.all fun p=>!decide (p.1=[95])
structure Lv (st st':St):Prop where
 QV:∃k,st'.rest=st.rest.drop k
 nx:st.next≤st'.next
 nm:st'.names.length+st.next≤st.names.length+st'.next
 pre:∃q,st'.names=st.names++q
 Hm:AA st.names=true→AA st'.names=true
 rg:(∀p ∈ st.names,0≤p.2∧p.2 < st.next)→∀p ∈ st'.names,0≤p.2∧p.2 < st'.next
structure Ok (st st':St):Prop where
 lv:Lv st st'
 pos:st'.rest.length < st.rest.length
 RR:st'.at_+st'.rest.length=st.at_+st.rest.length
 Tj:st'.next+st'.rest.length≤st.next+st.rest.length
theorem Lv.refl (st:St):Lv st st:=⟨⟨0,rfl⟩,Nat.le_refl _,Nat.le_refl _,⟨[],by simp⟩,id,id⟩
theorem Lv.trans {a b c:St} (h:Lv a b) (g:Lv b c):Lv a c:=by
 obtain⟨k,hk⟩:=h.QV;obtain⟨j,hj⟩:=g.QV;obtain⟨p,hp⟩:=h.pre;obtain⟨q,hq⟩:=g.pre;have:=h.nx;have:=g.nx;have:=h.nm;have:=g.nm;exact⟨⟨k+j,by rw[hj,hk,List.drop_drop]⟩,by omega,by omega,⟨p++q,by rw[hq,hp,List.append_assoc]⟩,fun e=>g.Hm (h.Hm e),fun e=>g.rg (h.rg e)⟩
theorem Lv.len {a b:St} (h:Lv a b):b.rest.length≤a.rest.length:=by
 obtain⟨k,hk⟩:=h.QV;rw[hk,List.length_drop];omega
theorem Lv.all {a b:St} (h:Lv a b) (p:gk→Bool) (ha:a.rest.all p=true):b.rest.all p=true:=by
 obtain⟨k,hk⟩:=h.QV;rw[hk,List.all_eq_true];exact fun x hx=>List.all_eq_true.1 ha x (List.mem_of_mem_drop hx)
theorem gP (st:St):Lv st (aC st):=⟨⟨1,by simp[aC]⟩,Nat.le_refl _,Nat.le_refl _,⟨[],by simp[aC]⟩,id,id⟩
theorem jw {st:St} (h:0 < st.rest.length):Ok st (aC st):=by
 have:=cI st;refine⟨gP st,by omega,?_,?_⟩
 ·show st.at_+1+_=_;omega
 ·show st.next+_≤_
  omega
theorem Ok.trans {a b c:St} (h:Ok a b) (g:Ok b c):Ok a c:=by
 have:=h.pos;have:=g.pos;have:=h.RR;have:=g.RR;have:=h.Tj;have:=g.Tj;exact⟨h.lv.trans g.lv,by omega,by omega,by omega⟩
theorem iI (s:List UInt8) (st:St):Lv st (bb s st).2:=by
 unfold bb;split
 ·exact gP st
 ·exact Lv.refl st
theorem eE {s:List UInt8} {st:St} (h:(bb s st).1=true):Ok st (bb s st).2:=by
 unfold bb at h ⊢;split
 ·rename_i hc;exact jw (bN (by rw[hc.1];decide))
 ·rename_i hc;rw[if_neg hc] at h;cases h
theorem lY {s:List UInt8} {st:St} (h:(bb s st).1=false):(bb s st).2=st:=by
 unfold bb at h ⊢;split
 ·rename_i hc;rw[if_pos hc] at h;cases h
 ·rfl
theorem Ek (s:List UInt8) (st:St):Lv st (jc s st).2:=by
 unfold jc;split
 ·exact Lv.refl st
 ·refine⟨⟨0,rfl⟩,Nat.le_succ _,?_,?_,fun h=>?_,fun h p hp=>?_⟩
  ·dsimp only;split<;>simp<;>omega
  ·dsimp only;split
   ·exact⟨[],by simp⟩
   ·exact⟨_,rfl⟩
  ·dsimp only;split
   ·exact h
   ·rename_i hs;unfold AA at h ⊢;rw[List.all_append,h];simp[hs]
  ·dsimp only at hp ⊢;split at hp
   ·have:=h p hp;omega
   ·rcases List.mem_append.1 hp with hp | hp
    ·have:=h p hp;omega
    ·simp only[List.mem_singleton] at hp;subst hp;dsimp only;omega
theorem KC {s:List UInt8} {st:St} (h:0 < st.rest.length):Ok st (jc s (aC st)).2:=by
 have h1:=cI st;have hv:=Ek s (aC st)
 have hr:(jc s (aC st)).2.rest=(aC st).rest∧(jc s (aC st)).2.at_=(aC st).at_∧(jc s (aC st)).2.next≤(aC st).next+1:=by
  unfold jc;split
  ·exact⟨rfl,rfl,Nat.le_succ _⟩
  ·exact⟨rfl,rfl,Nat.le_refl _⟩
 refine⟨(gP st).trans hv,by rw[hr.1];omega,?_,?_⟩
 ·rw[hr.1,hr.2.1];show st.at_+1+_=_;omega
 ·rw[hr.1];have:(aC st).next=st.next:=rfl
  omega
structure uO (rec:Int→St→PR×St):Prop where
 lv:∀n st,Lv st (rec n st).2
 ok:∀n st,(rec n st).1.2.2=true→Ok st (rec n st).2
section
variable {rec:Int→St→PR×St} (H:uO rec)
include H
theorem ix:∀(M:Nat) (acc:List Tm) (st:St),Lv st (bw rec M acc st).2∧((bw rec M acc st).1.2=true→Ok st (bw rec M acc st).2)
 | 0,acc,st=>⟨Lv.refl st,fun h=>by cases h⟩
 | M+1,acc,st=>by
   unfold bw;by_cases h1:(rec 999 st).1.2.2=true
   ·rw[if_pos h1];by_cases h2:(bb [44] (rec 999 st).2).1=true
    ·rw[if_pos h2];obtain⟨i1,i2⟩:=ix M (acc++[(rec 999 st).1.1]) (bb [44] (rec 999 st).2).2;exact⟨((H.lv 999 st).trans (iI _ _)).trans i1,fun h=>((H.ok 999 st h1).trans (eE h2)).trans (i2 h)⟩
    ·rw[if_neg h2];exact⟨H.lv 999 st,fun _=>H.ok 999 st h1⟩
   ·rw[if_neg h1];exact⟨H.lv 999 st,fun h=>by cases h⟩
theorem F4 (l:List Tm) (st:St):Lv st (gx rec l st).2∧((gx rec l st).1.2=true→Ok st (gx rec l st).2):=by
 unfold gx;by_cases h1:(bb [124] st).1=true
 ·rw[if_pos h1];by_cases h2:(rec 999 (bb [124] st).2).1.2.2=true
  ·rw[if_pos h2];exact⟨((iI _ _).trans (H.lv _ _)).trans (iI _ _),fun h=>((eE h1).trans (H.ok _ _ h2)).trans (eE h)⟩
  ·rw[if_neg h2];exact⟨(iI _ _).trans (H.lv _ _),fun h=>by cases h⟩
 ·rw[if_neg h1];exact⟨iI _ _,fun h=>eE h⟩
theorem zM (M:Nat) (st:St):Lv st (gm rec M st).2∧((gm rec M st).1.2=true→Ok st (gm rec M st).2):=by
 obtain⟨i1,i2⟩:=ix H M [] st;unfold gm;by_cases h1:(bw rec M [] st).1.2=true
 ·rw[if_pos h1];obtain⟨j1,j2⟩:=F4 H (bw rec M [] st).1.1 (bw rec M [] st).2;exact⟨i1.trans j1,fun h=>(i2 h1).trans (j2 h)⟩
 ·rw[if_neg h1];exact⟨i1,fun h=>by cases h⟩
theorem se (c:List UInt8) (f:Tm→Tm) (st:St):Lv st (eZ rec c f st).2∧((eZ rec c f st).1.2.2=true→Ok st (eZ rec c f st).2):=by
 unfold eZ;by_cases h1:(rec 1200 st).1.2.2=true
 ·rw[if_pos h1];exact⟨(H.lv _ _).trans (iI _ _),fun h=>(H.ok _ _ h1).trans (eE h)⟩
 ·rw[if_neg h1];exact⟨H.lv _ _,fun h=>by cases h⟩
theorem zO (M:Nat) (s:List UInt8) (st:St):Lv st (iC rec M s st).2∧((iC rec M s st).1.2.2=true→Ok st (iC rec M s st).2):=by
 obtain⟨i1,i2⟩:=ix H M [] st;unfold iC;by_cases h1:(bw rec M [] st).1.2=true
 ·rw[if_pos h1];exact⟨i1.trans (iI _ _),fun h=>(i2 h1).trans (eE h)⟩
 ·rw[if_neg h1];exact⟨i1,fun h=>by cases h⟩
theorem nH (T:List bO) (M:Nat) (n:Int) (st:St):Lv st (dQ rec T M n st).2∧((dQ rec T M n st).1.2.2=true→Ok st (dQ rec T M n st).2):=by
 unfold dQ;by_cases k4:(aQ st).kind=4
 ·rw[if_pos k4];exact⟨gP st,fun _=>jw (bN (by omega))⟩
 rw[if_neg k4];by_cases k3:(aQ st).kind=3
 ·rw[if_pos k3];exact⟨(gP st).trans (Ek _ _),fun _=>KC (bN (by omega))⟩
 rw[if_neg k3];by_cases c1:(aQ st).kind=5∧(aQ st).text=[40]
 ·rw[if_pos c1];obtain⟨i1,i2⟩:=se H [41] (fun t=>t) (aC st);exact⟨(gP st).trans i1,fun h=>(jw (bN (by omega))).trans (i2 h)⟩
 rw[if_neg c1];by_cases c2:(aQ st).kind=5∧(aQ st).text=[91]
 ·rw[if_pos c2];obtain⟨i1,i2⟩:=zM H M (aC st);exact⟨(gP st).trans i1,fun h=>(jw (bN (by omega))).trans (i2 h)⟩
 rw[if_neg c2];by_cases c3:(aQ st).kind=5∧(aQ st).text=[123]
 ·rw[if_pos c3];obtain⟨i1,i2⟩:=se H [125] (fun t=>cm [123,125] [t]) (aC st);exact⟨(gP st).trans i1,fun h=>(jw (bN (by omega))).trans (i2 h)⟩
 rw[if_neg c3];by_cases c4:(!eN (aQ st))=true
 ·rw[if_pos c4];exact⟨gP st,fun h=>by cases h⟩
 rw[if_neg c4];have hk:(aQ st).kind≠0:=fun h=>c4 (by unfold eN;rw[h];rfl)
 by_cases c5:(aQ st).ig=true
 ·rw[if_pos c5];obtain⟨i1,i2⟩:=zO H M (aQ st).text (aC (aC st));refine⟨((gP st).trans (gP _)).trans i1,fun h=>?_⟩;have j:=i2 h;have hp:=jw (bN hk)
  have:0 < (aC st).rest.length:=by
   have h1:=cI (aC st);have h2:=j.pos;omega
  exact (hp.trans (jw this)).trans j
 rw[if_neg c5];by_cases c6:(aQ st).kind=1∧(aQ st).text=[45]∧(aQ (aC st)).kind=4∧(aQ st).Qt=true
 ·rw[if_pos c6];exact⟨(gP st).trans (gP _),fun _=>(jw (bN hk)).trans (jw (bN (by omega)))⟩
 rw[if_neg c6];have ha:=jw (bN hk);unfold ch;by_cases d1:(aQ st).kind=2
 ·rw[if_pos d1];exact⟨gP st,fun _=>ha⟩
 rw[if_neg d1];by_cases d2:((cd T (aQ st).text true).2&&decide ((cd T (aQ st).text true).1.l≤n)&&fI T (aC st))=true
 ·rw[if_pos d2];exact⟨(gP st).trans (H.lv _ _),fun h=>ha.trans (H.ok _ _ h)⟩
 ·rw[if_neg d2];exact⟨gP st,fun _=>ha⟩
theorem ib (T:List bO):∀(M:Nat) (n:Int) (r:PR) (st:St),Lv st (dZ rec T M n r st).2∧((dZ rec T M n r st).1.2.2=true→r.2.2=true∧(st=(dZ rec T M n r st).2∨Ok st (dZ rec T M n r st).2))
 | 0,n,r,st=>⟨Lv.refl st,fun h=>⟨h,.inl rfl⟩⟩
 | M+1,n,r,st=>by
   unfold dZ;by_cases h0:(!r.2.2)=true
   ·rw[if_pos h0];exact⟨Lv.refl st,fun h=>⟨h,.inl rfl⟩⟩
   rw[if_neg h0];by_cases h1:(!(db T (aQ st)).2||decide (n < (db T (aQ st)).1.l)||decide ((a7 (db T (aQ st)).1).1 < r.2.1))=true
   ·rw[if_pos h1];exact⟨Lv.refl st,fun h=>⟨h,.inl rfl⟩⟩
   rw[if_neg h1];obtain⟨i1,i2⟩:=ib T M n (cm (aQ st).text [r.1,(rec (a7 (db T (aQ st)).1).2 (aC st)).1.1],(db T (aQ st)).1.l,(rec (a7 (db T (aQ st)).1).2 (aC st)).1.2.2) (rec (a7 (db T (aQ st)).1).2 (aC st)).2;refine⟨((gP st).trans (H.lv _ _)).trans i1,fun h=>⟨by simpa using h0,.inr ?_⟩⟩;obtain⟨j1,j2⟩:=i2 h
   have hk:(aQ st).kind≠0:=fun h=>h1 (by
    have:(db T (aQ st)).2=false:=by
     unfold db eN;rw[h];rfl
    rw[this];rfl)
   have a:=(jw (bN hk)).trans (H.ok _ _ j1);rcases j2 with j2 | j2
   ·rw[←j2];exact a
   ·exact a.trans j2
end
theorem nv (T:List bO):∀N,uO (fE T N)
 | 0=>⟨fun n st=>Lv.refl st,fun n st h=>by cases h⟩
 | N+1=>by
   have H:=nv T N;refine⟨fun n st=>?_,fun n st h=>?_⟩
   ·unfold fE;exact (nH H T (N+1) n st).1.trans (ib H T (N+1) n _ _).1
   ·unfold fE at h ⊢;obtain⟨j1,j2⟩:=(ib H T (N+1) n _ _).2 h;have a:=(nH H T (N+1) n st).2 j1;rcases j2 with j2 | j2
    ·rw[←j2];exact a
    ·exact a.trans j2
section
variable {b:UInt8} (hb:gd b=true)
include hb
theorem gI:b.toNat=32∨b.toNat=9∨b.toNat=10∨b.toNat=13:=by
 unfold gd at hb;simpa[or_assoc] using hb
theorem CB:k9 b=false:=by
 have:=gI hb;unfold k9;simp;omega
theorem B3:lh b=false:=by
 have:=gI hb;unfold lh;simp;omega
theorem yR:dW b=false:=by
 have:=gI hb;unfold dW;simp;omega
theorem ET:kE b=false:=by
 unfold kE;rw[CB hb,B3 hb,yR hb];rfl
theorem Hx:rT b=false:=by
 have:=gI hb;unfold rT Iq;simp only[List.any_eq_false,decide_eq_true_eq];intro d hd;simp only[List.mem_cons,List.not_mem_nil,or_false] at hd;rcases hd with rfl | rfl | rfl | rfl | rfl | rfl | rfl | rfl | rfl | rfl | rfl | rfl | rfl | rfl | rfl | rfl | rfl<;>(rw[show ∀n,(UInt8.toNat n)=n.toNat from fun _=>rfl];simp;omega)
end
theorem rn (p:UInt8→Bool) {b:UInt8} (hp:p b=false) (v:List UInt8):∀u,runN p (u++b::v)=runN p u
 | []=>by
   show (if p b then _ else 0)=0;rw[hp];rfl
 | c::r=>by
   show (if p c then runN p (r++b::v)+1 else 0)=if p c then runN p r+1 else 0
   rw[rn p hp v r]
theorem wM {α:Type} {k:Nat} {u w:List α} (h:k≤u.length):(u++w).take k=u.take k:=by rw[List.take_append_of_le_length h]
section
variable {b:UInt8} (hb:gd b=true) (v:List UInt8)
include hb
theorem BI:∀{u:List UInt8},u≠[]→kD (u++b::v)=kD u
 | [c],_=>by
   show (decide (c.toNat=46)&&(gd b||decide (b.toNat=37)))=(decide (c.toNat=46)&&true);rw[hb];rfl
 | c::d::r,_=>rfl
theorem F0:∀u,kh (u++b::v)=kh u
 | []=>by
   show (if rT b&&_ then _ else 0)=0;rw[Hx hb];rfl
 | c::r=>by
   have e:=BI hb v (u:=c::r) (by simp);show (if rT c&&!kD (c::r++b::v) then kh (r++b::v)+1 else 0)=if rT c&&!kD (c::r) then kh r+1 else 0
   rw[e,F0 r]
theorem CO:¬ b.toNat=39:=by have:=gI hb;omega
theorem vw:∀(n m:Nat) (u acc:List UInt8) (k:Nat),u.length < n→u.length+v.length+1 < m→(fL n u acc k).1≠none→fL m (u++b::v) acc k=fL n u acc k
 | 0,_,_,_,_,h,_,_=>by omega
 | _+1,0,_,_,_,_,h,_=>by omega
 | n+1,m+1,[],acc,k,_,_,h=>by rw[vu] at h;exact absurd rfl h
 | n+1,m+1,c::r,acc,k,h1,h2,h=>by
   simp only[List.length_cons] at h1 h2;rw[List.cons_append];by_cases c1:c.toNat=39
   ·cases r with
    | nil=>rw[List.nil_append,tX c1 (CO hb),AD c1]
    | cons d r'=>
      simp only[List.length_cons] at h1 h2;rw[List.cons_append];by_cases c2:d.toNat=39
      ·rw[wL c1 c2] at h ⊢;rw[wL c1 c2];exact vw n m r' _ _ (by omega) (by omega) h
      ·rw[tX c1 c2,tX c1 c2]
   ·by_cases c2:c.toNat < 32∨126 < c.toNat
    ·rw[vC c1 c2] at h;exact absurd rfl h
    ·by_cases c3:c.toNat=92
     ·cases r with
      | nil=>rw[At c3] at h;exact absurd rfl h
      | cons d r'=>
        simp only[List.length_cons] at h1 h2;rw[List.cons_append]
        cases hd:xT d with
        | none=>rw[zS c3 hd] at h;exact absurd rfl h
        | some x=>
          rw[xe c3 hd] at h ⊢;rw[xe c3 hd];exact vw n m r' _ _ (by omega) (by omega) h
     ·rw[Cj c1 c2 c3] at h ⊢;rw[Cj c1 c2 c3];exact vw n m r _ _ (by omega) (by omega) h
theorem zt {u:List UInt8} (hu:u≠[]) (h:(dr u).2.2=0):dr (u++b::v)=dr u:=by
 cases u with
 | nil=>exact absurd rfl hu
 | cons c r=>
   have e1:=rn kE (ET hb) v (c::r);have e2:=rn dW (yR hb) v (c::r);have e3:=F0 hb v (c::r);have e4:=BI hb v (u:=c::r) (by simp);have t1:=wM (w:=b::v) (jr kE (c::r));have t2:=wM (w:=b::v) (jr dW (c::r));have t3:=wM (w:=b::v) (vL (c::r));rw[List.cons_append] at e1 e2 e3 e4 t1 t2 t3 ⊢;unfold dr at h ⊢;dsimp only at h ⊢;rw[e1,e2,e3,e4,t1,t2,t3];by_cases k1:k9 c=true
   ·rw[if_pos k1,if_pos k1]
   rw[if_neg k1] at h ⊢;rw[if_neg k1];by_cases k2:lh c=true
   ·rw[if_pos k2,if_pos k2]
   rw[if_neg k2] at h ⊢;rw[if_neg k2];by_cases k3:dW c=true
   ·rw[if_pos k3,if_pos k3]
   rw[if_neg k3] at h ⊢;rw[if_neg k3];by_cases k4:c.toNat=39
   ·rw[if_pos k4] at h ⊢;rw[if_pos k4]
    have hq:(fL (r.length+1) r [] 1).1≠none:=fun hn=>by
     generalize fL (r.length+1) r [] 1=q at *;obtain⟨a,j⟩:=q;dsimp only at hn;subst hn;cases h
    rw[vw hb v (r.length+1) ((r++b::v).length+1) r [] 1 (by omega) (by simp) hq]
   rw[if_neg k4] at h ⊢;rw[if_neg k4];by_cases k5:kD (c::r)=true
   ·rw[if_pos k5,if_pos k5]
   rw[if_neg k5] at h ⊢;rw[if_neg k5];by_cases k6:rT c=true
   ·rw[if_pos k6,if_pos k6]
   rw[if_neg k6] at h ⊢;rw[if_neg k6];by_cases k7:c.toNat=59∨c.toNat=33
   ·rw[if_pos k7,if_pos k7]
   rw[if_neg k7] at h ⊢;rw[if_neg k7]
   cases r with
   | nil=>
     have:=gI hb;rw[List.nil_append];dsimp only;rw[if_neg (by omega)]
   | cons d r'=>rfl
end
theorem kZ:∀(n m:Nat) (l:List UInt8),l.length < n→l.length < m→dG n l=dG m l
 | 0,_,_,h,_=>by omega
 | _+1,0,_,_,h=>by omega
 | n+1,m+1,[],_,_=>rfl
 | n+1,m+1,c::r,h1,h2=>by
   simp only[List.length_cons] at h1 h2;unfold dG;by_cases hb:gd c=true
   ·rw[if_pos hb,if_pos hb,kZ n m r (by omega) (by omega)]
   rw[if_neg hb,if_neg hb];by_cases hc:c.toNat=37
   ·have hp:1≤runN iz (c::r):=lg (by unfold iz;rw[hc];rfl);have hl:((c::r).drop (runN iz (c::r))).length≤r.length:=by rw[List.length_drop];simp;omega
    rw[if_pos hc,if_pos hc,kZ n m _ (by omega) (by omega)]
   ·rw[if_neg hc,if_neg hc]
def gz (x:List UInt8):List UInt8:=x.drop (dG (x.length+1) x)
theorem kL (x:List UInt8):(gz x).length≤x.length:=by unfold gz;rw[List.length_drop];omega
theorem GG:gz []=[]:=rfl
theorem oX {c:UInt8} {r:List UInt8} (h:gd c=true):gz (c::r)=gz r:=by
 unfold gz
 conv=>lhs;rw[show dG ((c::r).length+1) (c::r)=dG (r.length+1) r+1 from by
  conv=>lhs;unfold dG
  rw[if_pos h];rfl]
 rfl
theorem yW {c:UInt8} {r:List UInt8} (h:c.toNat=37):gz (c::r)=gz ((c::r).drop (runN iz (c::r))):=by
 have hb:¬ gd c=true:=fun e=>by have:=gI e;omega
 have hp:1≤runN iz (c::r):=lg (by unfold iz;rw[h];rfl);have hl:((c::r).drop (runN iz (c::r))).length≤r.length:=by rw[List.length_drop];simp;omega
 have e:dG ((c::r).length+1) (c::r)=runN iz (c::r)+dG (((c::r).drop (runN iz (c::r))).length+1) ((c::r).drop (runN iz (c::r))):=by
  conv=>lhs;unfold dG
  rw[if_neg hb,if_pos h,kZ (c::r).length (((c::r).drop (runN iz (c::r))).length+1) _ (by simp only[List.length_cons];omega) (by omega)]
 unfold gz;rw[e,List.drop_drop]
theorem zo {c:UInt8} {r:List UInt8} (h1:¬ gd c=true) (h2:¬ c.toNat=37):gz (c::r)=c::r:=by
 unfold gz dG;rw[if_neg h1,if_neg h2];rfl
theorem pR {b:UInt8} (hb:b.toNat=10) (v:List UInt8):∀(n:Nat) (x:List UInt8),x.length < n→gz (x++b::v)=if gz x=[] then gz v else gz x++b::v
 | 0,_,h=>by omega
 | n+1,[],_=>by
   rw[List.nil_append,oX (by unfold gd;simp[hb]),GG,if_pos rfl]
 | n+1,c::r,h=>by
   simp only[List.length_cons] at h;rw[List.cons_append];by_cases h1:gd c=true
   ·rw[oX h1,oX h1];exact pR hb v n r (by omega)
   by_cases h2:c.toNat=37
   ·have hp:1≤runN iz (c::r):=lg (by unfold iz;rw[h2];rfl);have e:=rn iz (b:=b) (by unfold iz;simp[hb]) v (c::r);rw[List.cons_append] at e;rw[yW h2,yW h2,e,←List.cons_append,List.drop_append_of_le_length (jr _ _)];exact pR hb v n _ (by rw[List.length_drop];simp;omega)
   ·rw[zo h1 h2,zo h1 h2,if_neg (by simp)];rfl
def ob (u:List UInt8):List UInt8:=u.drop (dr u).2.1
def ja (u:List UInt8):List UInt8:=gz (ob u)
def ES (u:List UInt8):gk:=⟨(dr u).1.kind,(dr u).1.text,(dr u).1.num,decide ((ob u).head?.map UInt8.toNat=some 40),decide (u.length - (ja u).length=1∧ja u≠[])⟩
theorem oL {u:List UInt8} (h:(dr u).2.2=0):(ob u).length < u.length∧(ja u).length < u.length:=by
 have h1:=jI u;have h2:=h1.2 h;have h3:=kL (ob u);have h4:(ob u).length=u.length - (dr u).2.1:=by unfold ob;rw[List.length_drop]
 unfold ja;omega
def pW:Nat→List UInt8→Option (List gk)
 | 0,_=>none
 | _+1,[]=>some []
 | n+1,c::r=>if (dr (c::r)).2.2=0 then (pW n (ja (c::r))).map (ES (c::r)::·) else none
theorem B2:∀(n m:Nat) (u:List UInt8),u.length < n→u.length < m→pW n u=pW m u
 | 0,_,_,h,_=>by omega
 | _+1,0,_,_,h=>by omega
 | n+1,m+1,[],_,_=>rfl
 | n+1,m+1,c::r,h1,h2=>by
   unfold pW;by_cases h:(dr (c::r)).2.2=0
   ·have:=(oL h).2;simp only[List.length_cons] at h1 h2 this;rw[if_pos h,if_pos h,B2 n m _ (by omega) (by omega)]
   ·rw[if_neg h,if_neg h]
def xY (x:List UInt8):Option (List gk):=pW (x.length+1) (gz x)
theorem F3 {x:List UInt8} {n:Nat} (h:(gz x).length < n):xY x=pW n (gz x):=B2 _ _ _ (by have:=kL x;omega) h
section
variable {b:UInt8} (hb:b.toNat=10) (v:List UInt8)
include hb
theorem xq:gd b=true:=by unfold gd;simp[hb]
theorem Gn {u:List UInt8} (hu:u≠[]) (h:(dr u).2.2=0):ob (u++b::v)=ob u++b::v:=by
 unfold ob;rw[zt (xq hb) v hu h,List.drop_append_of_le_length (jI u).1]
theorem CM {u:List UInt8} (hu:u≠[]) (h:(dr u).2.2=0):ja (u++b::v)=if ja u=[] then gz v else ja u++b::v:=by
 unfold ja;rw[Gn hb v hu h];exact pR hb v _ _ (Nat.lt_succ_self _)
theorem Ni {u:List UInt8} (hu:u≠[]) (h:(dr u).2.2=0):ES (u++b::v)=ES u:=by
 have e1:=zt (xq hb) v hu h;have e2:=Gn hb v hu h;have e3:=CM hb v hu h;have l1:=oL h;unfold ES;rw[e1,e2];congr 1
 ·cases hn:ob u with
  | nil=>simp[hb]
  | cons d w=>rfl
 ·rw[e3];by_cases hr:ja u=[]
  ·rw[if_pos hr];have h1:=kL v;have h2:(u++b::v).length=u.length+v.length+1:=by simp;omega
   have h3:0 < u.length:=List.length_pos_iff.2 hu;rw[decide_eq_false (fun g=>by omega),decide_eq_false (fun g=>g.2 hr)]
  ·rw[if_neg hr];have h2:(u++b::v).length=u.length+v.length+1:=by simp;omega
   have h3:(ja u++b::v).length=(ja u).length+v.length+1:=by simp;omega
   rw[h2,h3];refine decide_eq_decide.2 ⟨fun g=>⟨by omega,hr⟩,fun g=>⟨by omega,by simp⟩⟩
theorem Gc {L':List gk} (hv:xY v=some L'):∀(n:Nat) (u:List UInt8) (L:List gk),u≠[]→u.length < n→pW n u=some L→∀m,u.length+v.length+1 < m→pW m (u++b::v)=some (L++L')
 | 0,_,_,_,h,_,_,_=>by omega
 | n+1,[],_,h,_,_,_,_=>absurd rfl h
 | n+1,c::r,L,hu,h1,h,0,h2=>by omega
 | n+1,c::r,L,hu,h1,h,m+1,h2=>by
   unfold pW at h;by_cases he:(dr (c::r)).2.2=0
   ·rw[if_pos he,Option.map_eq_some_iff] at h;obtain⟨K,h3,rfl⟩:=h;have e1:=zt (xq hb) v hu he;have e2:=Ni hb v hu he;have e3:=CM hb v hu he;have l1:=(oL he).2;simp only[List.length_cons] at h1 h2 l1;rw[List.cons_append] at e1 e2 e3 ⊢;unfold pW;rw[e1,if_pos he,e2,e3];by_cases hr:ja (c::r)=[]
    ·rw[if_pos hr];rw[hr] at h3
     have hK:K=[]:=by
      cases n with
      | zero=>cases h3
      | succ n=>cases h3;rfl
     subst hK;have:=kL v;rw[←F3 (x:=v) (n:=m) (by omega),hv];rfl
    ·rw[if_neg hr];rw[Gc hv n (ja (c::r)) K hr (by omega) h3 m (by omega)];rfl
   ·rw[if_neg he] at h;cases h
theorem Ks {x:List UInt8} {L L':List gk} (hx:xY x=some L) (hv:xY v=some L'):xY (x++b::v)=some (L++L'):=by
 have e:=pR hb v _ x (Nat.lt_succ_self _);have l1:=kL x;have l2:=kL v;by_cases hs:gz x=[]
 ·rw[if_pos hs] at e
  have hL:L=[]:=by
   unfold xY at hx;rw[hs] at hx;cases hx;rfl
  subst hL;unfold xY;rw[e,List.nil_append,←F3 (x:=v) (by simp;omega)];exact hv
 ·rw[if_neg hs] at e;unfold xY;rw[e];exact Gc hb v hv (x.length+1) (gz x) L hs (by omega) hx _ (by simp;omega)
end
theorem FI:∀(f:Nat) (s:List UInt8) (j:Nat) (acc:List Tok),j≤s.length→s.length - j < f→(n7 f s j acc).2.2=0→∃M,(n7 f s j acc).1=acc++M∧pW f (s.drop j)=some (iO M)∧M.head?.map Tok.at_=if j < s.length then some (j:Int) else none
 | 0,_,_,_,_,h,_=>by omega
 | f+1,s,j,acc,hj,hf,h=>by
   unfold n7 at h ⊢;by_cases h1:s.length≤j
   ·rw[if_pos h1];refine⟨[],by simp,?_,?_⟩
    ·rw[List.drop_of_length_le h1];rfl
    ·rw[if_neg (by omega)];rfl
   rw[if_neg h1] at h ⊢;by_cases h2:(dr (s.drop j)).2.2=0
   ·rw[if_neg (fun g=>g h2)] at h ⊢;by_cases h3:(((dr (s.drop j)).1.kind=1∨(dr (s.drop j)).1.kind=2)∧64 < (dr (s.drop j)).1.text.length)∨acc.length=1024
    ·rw[if_pos h3] at h;cases h
    rw[if_neg h3] at h ⊢;have hu:s.drop j≠[]:=fun e=>by have:=congrArg List.length e;simp at this;omega
    have l1:=oL h2;have l2:=jI (s.drop j);have l3:=l2.2 h2;have ld:(s.drop j).length=s.length - j:=List.length_drop;have en:ob (s.drop j)=s.drop (j+(dr (s.drop j)).2.1):=by unfold ob;rw[List.drop_drop]
    have ek:dG (s.length+1) (s.drop (j+(dr (s.drop j)).2.1))=dG ((ob (s.drop j)).length+1) (ob (s.drop j)):=by
     rw[en];exact kZ _ _ _ (by rw[List.length_drop];omega) (Nat.lt_succ_self _)
    have er:ja (s.drop j)=s.drop (j+(dr (s.drop j)).2.1+dG (s.length+1) (s.drop (j+(dr (s.drop j)).2.1))):=by
     unfold ja gz;rw[←ek,en,List.drop_drop]
    have lk:=jg (s.length+1) (s.drop (j+(dr (s.drop j)).2.1));rw[List.length_drop] at lk;have lr:=congrArg List.length er;rw[List.length_drop] at lr;obtain⟨M,a1,a2,a3⟩:=FI f s _ _ (by omega) (by omega) h;rw[←er] at a2;refine⟨⟨(dr (s.drop j)).1.kind,(dr (s.drop j)).1.text,(dr (s.drop j)).1.num,decide ((s[j+(dr (s.drop j)).2.1]?.map UInt8.toNat)=some 40),j⟩::M,by rw[a1];simp,?_,by rw[if_pos (by omega)];rfl⟩
    cases hd:s.drop j with
    | nil=>exact absurd hd hu
    | cons c r=>
      rw[←hd];have:pW (f+1) (s.drop j)=if (dr (s.drop j)).2.2=0 then (pW f (ja (s.drop j))).map (ES (s.drop j)::·) else none:=by rw[hd];rfl
      rw[this,if_pos h2,a2];show some _=some (_::iO M);refine congrArg some (congrArg (·::iO M) ?_);unfold ES;congr 1
      ·rw[en,List.head?_drop]
      ·cases M with
       | nil=>
         have hz:¬ (j+(dr (s.drop j)).2.1+dG (s.length+1) (s.drop (j+(dr (s.drop j)).2.1))) < s.length:=fun g=>by rw[if_pos g] at a3;cases a3
         show decide _=false;refine decide_eq_false fun g=>g.2 ?_
         rw[er];exact List.drop_of_length_le (by omega)
       | cons t M=>
         have hz:(j+(dr (s.drop j)).2.1+dG (s.length+1) (s.drop (j+(dr (s.drop j)).2.1))) < s.length:=by
          refine Decidable.byContradiction fun g=>?_
          rw[if_neg g] at a3;cases a3
         rw[if_pos hz] at a3;have ht:t.at_=((j+(dr (s.drop j)).2.1+dG (s.length+1) (s.drop (j+(dr (s.drop j)).2.1)):Nat):Int):=Option.some.inj a3;show decide _=decide (t.at_=(j:Int)+1);refine decide_eq_decide.2 ⟨fun g=>by rw[ht];omega,fun g=>⟨by rw[ht] at g;omega,fun e=>by rw[e] at lr;simp at lr;omega⟩⟩
   ·rw[if_pos h2] at h;exact absurd h h2
theorem Fw:∀(f:Nat) (s:List UInt8) (j:Nat) (acc:List Tok) (L:List gk),j≤s.length→s.length - j < f→pW f (s.drop j)=some L→(n7 f s j acc).2.2=0∨(n7 f s j acc).2.2=3
 | 0,_,_,_,_,_,h,_=>by omega
 | f+1,s,j,acc,L,hj,hf,h=>by
   unfold n7;by_cases h1:s.length≤j
   ·rw[if_pos h1];exact .inl rfl
   rw[if_neg h1]
   cases hd:s.drop j with
   | nil=>exact absurd (congrArg List.length hd) (by simp;omega)
   | cons c r=>
     rw[←hd];have e:pW (f+1) (s.drop j)=if (dr (s.drop j)).2.2=0 then (pW f (ja (s.drop j))).map (ES (s.drop j)::·) else none:=by rw[hd];rfl
     rw[e] at h;by_cases h2:(dr (s.drop j)).2.2=0
     ·rw[if_neg (fun g=>g h2)];by_cases h3:(((dr (s.drop j)).1.kind=1∨(dr (s.drop j)).1.kind=2)∧64 < (dr (s.drop j)).1.text.length)∨acc.length=1024
      ·rw[if_pos h3];exact .inr rfl
      rw[if_neg h3];rw[if_pos h2,Option.map_eq_some_iff] at h;obtain⟨K,h4,_⟩:=h;have l1:=oL h2;have l2:=jI (s.drop j);have l3:=l2.2 h2;have ld:(s.drop j).length=s.length - j:=List.length_drop;have en:ob (s.drop j)=s.drop (j+(dr (s.drop j)).2.1):=by unfold ob;rw[List.drop_drop]
      have ek:dG (s.length+1) (s.drop (j+(dr (s.drop j)).2.1))=dG ((ob (s.drop j)).length+1) (ob (s.drop j)):=by
       rw[en];exact kZ _ _ _ (by rw[List.length_drop];omega) (Nat.lt_succ_self _)
      have er:ja (s.drop j)=s.drop (j+(dr (s.drop j)).2.1+dG (s.length+1) (s.drop (j+(dr (s.drop j)).2.1))):=by
       unfold ja gz;rw[←ek,en,List.drop_drop]
      have lk:=jg (s.length+1) (s.drop (j+(dr (s.drop j)).2.1));rw[List.length_drop] at lk;rw[er] at h4;exact Fw f s _ _ K (by omega) (by omega) h4
     ·rw[if_neg h2] at h;cases h
theorem xw {s:List UInt8} (h:(dn s).2.2=0):xY s=some (iO (dn s).1):=by
 unfold dn at h ⊢;by_cases hl:4096 < s.length
 ·rw[if_pos hl] at h;cases h
 rw[if_neg hl] at h ⊢;have hk:=jg (s.length+1) s;obtain⟨M,a1,a2,_⟩:=FI (s.length+1) s (dG (s.length+1) s) [] hk (by omega) h;rw[a1,List.nil_append];exact a2
theorem Kr {s:List UInt8} {L:List gk} (h:xY s=some L):(dn s).2.2=0∨(dn s).2.2=3:=by
 unfold dn;by_cases hl:4096 < s.length
 ·rw[if_pos hl];exact .inr rfl
 rw[if_neg hl];exact Fw (s.length+1) s _ [] L (jg (s.length+1) s) (by omega) h
end Go.Proofs.YtjmeonoabiliiaaGreatDoor

namespace Go.Proofs.YtjmeonoabiliiaaGreatDoor
open Go Sz Go.RowKit
end Go.Proofs.YtjmeonoabiliiaaGreatDoor

namespace Go.Proofs.YtjmeonoabiliiaaGreatDoor
open Go Sz
def SJ (k n:Int) (s:List UInt8):List Tm→Tm
 | []=>.nl k n s
 | x::r=>.mk k n s (x::r)
mutual
def fZ:Tm→Tm
 | .nl k n s=>.nl k n s
 | .mk k n s us=>SJ k n s (LS us)
def LS:List Tm→List Tm
 | []=>[]
 | t::r=>fZ t::LS r
end
theorem CF:∀us:List Tm,LS us=us.map fZ
 | []=>rfl
 | x::r=>by simp[LS,CF r]
theorem Nl (t:Tm):fZ t=SJ t.kind t.num t.name (t.args.map fZ):=by
 cases t with
 | nl k n s=>rfl
 | mk k n s us=>rw[fZ,CF];rfl
def C2 (t:Tm):Bool:=decide (-9223372036854775808≤t.num)&&decide (t.num < 9223372036854775808)
def Tb (k:Nat) (rec rec':Int→St→PR×St):Prop:=∀n st,st.rest.length < k→rec n st=rec' n st
section
variable {k:Nat} {rec rec':Int→St→PR×St} (H:uO rec) (E:Tb k rec rec')
include H E
theorem rH:∀(M M':Nat) (acc:List Tm) (st:St),st.rest.length < k→st.rest.length < M→st.rest.length < M'→bw rec M acc st=bw rec' M' acc st
 | 0,_,_,_,_,h,_=>by omega
 | _+1,0,_,_,_,_,h=>by omega
 | M+1,M'+1,acc,st,h1,h2,h3=>by
   unfold bw;rw[E 999 st h1] at *;by_cases c1:(rec' 999 st).1.2.2=true
   ·rw[if_pos c1,if_pos c1];by_cases c2:(bb [44] (rec' 999 st).2).1=true
    ·rw[if_pos c2,if_pos c2]
     have p1:(rec' 999 st).2.rest.length < st.rest.length:=by
      have:=(H.ok 999 st (by rw[E 999 st h1];exact c1)).pos;rw[E 999 st h1] at this;exact this
     have p2:=(eE c2).pos;exact rH M M' _ _ (by omega) (by omega) (by omega)
    ·rw[if_neg c2,if_neg c2]
   ·rw[if_neg c1,if_neg c1]
theorem Nu (l:List Tm) (st:St) (h:st.rest.length < k):gx rec l st=gx rec' l st:=by
 unfold gx;have p:=(iI [124] st).len;rw[E 999 (bb [124] st).2 (by omega)]
theorem Fj (M M':Nat) (st:St) (h1:st.rest.length < k) (h2:st.rest.length < M) (h3:st.rest.length < M'):gm rec M st=gm rec' M' st:=by
 have p:=(ix H M [] st).1.len;unfold gm;rw[rH H E M M' [] st h1 h2 h3] at *;rw[Nu H E _ _ (by omega)]
theorem AW (c:List UInt8) (f:Tm→Tm) (st:St) (h:st.rest.length < k):eZ rec c f st=eZ rec' c f st:=by
 unfold eZ;rw[E 1200 st h]
theorem L9 (M M':Nat) (s:List UInt8) (st:St) (h1:st.rest.length < k) (h2:st.rest.length < M) (h3:st.rest.length < M'):iC rec M s st=iC rec' M' s st:=by
 unfold iC;rw[rH H E M M' [] st h1 h2 h3]
theorem Gw (T:List bO) (M M':Nat) (n:Int) (st:St) (h1:st.rest.length≤k) (h2:st.rest.length < M) (h3:st.rest.length < M'):dQ rec T M n st=dQ rec' T M' n st:=by
 have hl:=cI st;have hl2:=cI (aC st);unfold dQ;by_cases k4:(aQ st).kind=4
 ·rw[if_pos k4,if_pos k4]
 rw[if_neg k4,if_neg k4];by_cases k3:(aQ st).kind=3
 ·rw[if_pos k3,if_pos k3]
 rw[if_neg k3,if_neg k3];by_cases c1:(aQ st).kind=5∧(aQ st).text=[40]
 ·have:=bN (st:=st) (by omega);rw[if_pos c1,if_pos c1,AW H E _ _ _ (by omega)]
 rw[if_neg c1,if_neg c1];by_cases c2:(aQ st).kind=5∧(aQ st).text=[91]
 ·have:=bN (st:=st) (by omega);rw[if_pos c2,if_pos c2,Fj H E M M' _ (by omega) (by omega) (by omega)]
 rw[if_neg c2,if_neg c2];by_cases c3:(aQ st).kind=5∧(aQ st).text=[123]
 ·have:=bN (st:=st) (by omega);rw[if_pos c3,if_pos c3,AW H E _ _ _ (by omega)]
 rw[if_neg c3,if_neg c3];by_cases c4:(!eN (aQ st))=true
 ·rw[if_pos c4,if_pos c4]
 rw[if_neg c4,if_neg c4];have hk:(aQ st).kind≠0:=fun h=>c4 (by unfold eN;rw[h];rfl)
 have:=bN hk;by_cases c5:(aQ st).ig=true
 ·rw[if_pos c5,if_pos c5,L9 H E M M' _ _ (by omega) (by omega) (by omega)]
 rw[if_neg c5,if_neg c5];unfold ch;rw[E _ (aC st) (by omega)]
theorem zI (T:List bO):∀(M M':Nat) (n:Int) (r:PR) (st:St),st.rest.length≤k→st.rest.length < M→st.rest.length < M'→dZ rec T M n r st=dZ rec' T M' n r st
 | 0,_,_,_,_,_,h,_=>by omega
 | _+1,0,_,_,_,_,_,h=>by omega
 | M+1,M'+1,n,r,st,h1,h2,h3=>by
   have hl:=cI st;unfold dZ;by_cases h0:(!r.2.2)=true
   ·rw[if_pos h0,if_pos h0]
   rw[if_neg h0,if_neg h0];by_cases hb:(!(db T (aQ st)).2||decide (n < (db T (aQ st)).1.l)||decide ((a7 (db T (aQ st)).1).1 < r.2.1))=true
   ·rw[if_pos hb,if_pos hb]
   rw[if_neg hb,if_neg hb]
   have hk:(aQ st).kind≠0:=fun h=>hb (by
    have:(db T (aQ st)).2=false:=by
     unfold db eN;rw[h];rfl
    rw[this];rfl)
   have hp:=bN hk;have p:=(H.lv (a7 (db T (aQ st)).1).2 (aC st)).len;rw[E _ (aC st) (by omega)] at *;exact zI T M M' n _ _ (by omega) (by omega) (by omega)
end
theorem Fy (T:List bO):∀(N M:Nat) (n:Int) (st:St),st.rest.length < N→st.rest.length < M→fE T N n st=fE T M n st
 | 0,_,_,_,h,_=>by omega
 | _+1,0,_,_,_,h=>by omega
 | N+1,M+1,n,st,h1,h2=>by
   have H:=nv T N;have E:Tb (min N M) (fE T N) (fE T M):=fun n st h=>Fy T N M n st (by omega) (by omega)
   have p:=(nH H T (N+1) n st).1.len;unfold fE;rw[Gw H E T (N+1) (M+1) n st (by omega) (by omega) (by omega)] at *;exact zI H E T (N+1) (M+1) n _ _ (by omega) (by omega) (by omega)
def af (T:List bO) (n:Int) (st:St):PR×St:=fE T (st.rest.length+1) n st
theorem zx (T:List bO) {N:Nat} {st:St} (h:st.rest.length < N) (n:Int):fE T N n st=af T n st:=Fy T N _ n st h (Nat.lt_succ_self _)
def F9 (b:Nat) (t:Tm):Prop:=t.gU≤70*b∧t.ui C2=true
def RD (b:Nat) (l:List Tm):Prop:=Tm.fi l+70*l.length≤70*b∧Tm.hU C2 l=true
structure uX (st:St):Prop where
 tk:st.rest.all sA=true
 rg:∀p ∈ st.names,0≤p.2∧p.2 < st.next
 le:st.next+st.rest.length≤1000000
theorem Ok.n5 {a b:St} (h:Ok a b) (p:uX a):uX b:=⟨h.lv.all sA p.tk,h.lv.rg p.rg,by have:=h.Tj;have:=p.le;omega⟩
structure RX (rec:Int→St→PR×St):Prop where
 b:∀n st,uX st→(rec n st).1.2.2=true→F9 (st.rest.length - (rec n st).2.rest.length) (rec n st).1.1
theorem Gv {s:List UInt8} {n:Int}:∀{l:List (List UInt8×Int)},nV s l=some n→∃p ∈ l,p.2=n
 | [],h=>by cases h
 | p::r,h=>by
   unfold nV at h;split at h
   ·cases h;exact⟨p,by simp,rfl⟩
   ·obtain⟨q,h1,h2⟩:=Gv h;exact⟨q,List.mem_cons_of_mem _ h1,h2⟩
theorem J1 {s:St} (h1:s.rest.all sA=true) (h2:0 < s.rest.length):sA (aQ s)=true:=by
 unfold aQ
 cases hr:s.rest with
 | nil=>rw[hr] at h2;simp at h2
 | cons x r=>
   rw[hr,List.all_cons,Bool.and_eq_true] at h1;exact h1.1
theorem Ar {s:St} (h1:s.rest.all sA=true) (h2:0 < s.rest.length):0≤(aQ s).num∧(aQ s).num < 9223372036854775808:=by
 have h:=J1 h1 h2;unfold sA at h;simp only[Bool.and_eq_true,decide_eq_true_eq] at h;exact h.2
theorem Ct {s:St} (h1:s.rest.all sA=true) (h3:eN (aQ s)=true):(aQ s).text.length≤64:=by
 by_cases h2:0 < s.rest.length
 ·have h:=J1 h1 h2;unfold sA at h;rw[h3] at h;simp only[Bool.not_true,Bool.or_false,Bool.and_eq_true,decide_eq_true_eq] at h;exact h.1
 ·rw[Ck (List.length_eq_zero_iff.1 (by omega))];decide
theorem AK (p:Tm→Bool):∀a b:List Tm,Tm.hU p (a++b)=(Tm.hU p a&&Tm.hU p b)
 | [],b=>rfl
 | t::r,b=>by simp[Tm.hU,AK p r b,Bool.and_assoc]
theorem vE {b:Nat} {s:List UInt8} {us:List Tm} (hs:s.length≤64) (h1:Tm.fi us≤70*b) (h2:Tm.hU C2 us=true):F9 (b+1) (cm s us):=by
 cases us with
 | nil=>exact⟨by simp[cm,Tm.gU];omega,rfl⟩
 | cons t r=>exact⟨by simp only[cm,Tm.gU];omega,by simp only[cm,Tm.ui,h2];rfl⟩
theorem FL {b c:Nat} {t:Tm} (ht:F9 c t):∀{l:List Tm},RD b l→F9 (b+c) (dO l t)
 | [],h=>⟨by have:=ht.1;simp only[dO];omega,ht.2⟩
 | x::r,h=>by
   obtain⟨h1,h2⟩:=h;simp only[Tm.fi,List.length_cons,Tm.hU,Bool.and_eq_true] at h1 h2
   have key:∀l:List Tm,Tm.hU C2 l=true→(dO l t).gU≤Tm.fi l+2*l.length+t.gU∧(dO l t).ui C2=true:=fun l=>by
    induction l with
    | nil=>intro _;exact⟨by simp[dO,Tm.fi],ht.2⟩
    | cons y q ih=>
      intro h;simp only[Tm.hU,Bool.and_eq_true] at h;obtain⟨i1,i2⟩:=ih h.2;refine⟨?_,?_⟩
      ·simp only[dO,Tm.gU,Tm.fi,List.length_cons,List.length_nil];omega
      ·simp only[dO,Tm.ui,Tm.hU,h.1,i2];rfl
   obtain⟨k1,k2⟩:=key (x::r) (by simp only[Tm.hU,h2.1,h2.2];rfl);refine⟨?_,k2⟩;simp only[Tm.fi,List.length_cons] at k1;have:=ht.1;omega
section
variable {rec:Int→St→PR×St} (H:uO rec) (B:RX rec)
include H B
theorem Gj:∀(M:Nat) (acc:List Tm) (st:St),uX st→Tm.hU C2 acc=true→(bw rec M acc st).1.2=true→
 Tm.fi (bw rec M acc st).1.1+70*(bw rec M acc st).1.1.length≤Tm.fi acc+70*acc.length+70*(st.rest.length - (bw rec M acc st).2.rest.length)+70∧Tm.hU C2 (bw rec M acc st).1.1=true
 | 0,acc,st,_,_,h=>by cases h
 | M+1,acc,st,ha,hr,h=>by
   unfold bw at h ⊢;by_cases c1:(rec 999 st).1.2.2=true
   ·rw[if_pos c1] at h ⊢;obtain⟨b1,b2⟩:=B.b 999 st ha c1;have o1:=H.ok 999 st c1;have p:=o1.pos
    have hr':Tm.hU C2 (acc++[(rec 999 st).1.1])=true:=by
     rw[AK,hr];simp[Tm.hU,b2]
    have hb':Tm.fi (acc++[(rec 999 st).1.1])=Tm.fi acc+(rec 999 st).1.1.gU:=by
     rw[zb];simp[Tm.fi]
    by_cases c2:(bb [44] (rec 999 st).2).1=true
    ·rw[if_pos c2] at h ⊢;have o2:=eE c2;have p2:=o2.pos;obtain⟨i1,i2⟩:=Gj M _ _ ((o1.trans o2).n5 ha) hr' h;refine⟨?_,i2⟩;have l2:=(ix H M (acc++[(rec 999 st).1.1]) (bb [44] (rec 999 st).2).2).1.len;rw[hb'] at i1;simp only[List.length_append,List.length_cons,List.length_nil] at i1;omega
    ·rw[if_neg c2] at h ⊢;refine⟨?_,hr'⟩;dsimp only;rw[hb'];simp only[List.length_append,List.length_cons,List.length_nil];omega
   ·rw[if_neg c1] at h;cases h
theorem Bw (M:Nat) (st:St) (ha:uX st) (h:(bw rec M [] st).1.2=true):RD (st.rest.length - (bw rec M [] st).2.rest.length+1) (bw rec M [] st).1.1:=by
 obtain⟨i1,i2⟩:=Gj H B M [] st ha rfl h;simp only[Tm.fi,List.length_nil] at i1;exact⟨by omega,i2⟩
theorem PC (M:Nat) (st:St) (ha:uX st) (h:(gm rec M st).1.2=true):F9 (st.rest.length - (gm rec M st).2.rest.length+1) (gm rec M st).1.1:=by
 unfold gm at h ⊢;by_cases c1:(bw rec M [] st).1.2=true
 ·rw[if_pos c1] at h ⊢;have hB:=Bw H B M st ha c1;have hl:=(ix H M [] st).2 c1;have p:=hl.pos;have ha1:=hl.n5 ha;generalize bw rec M [] st=I at *;obtain⟨⟨l,ok⟩,st1⟩:=I;dsimp only at *;unfold gx at h ⊢;by_cases c2:(bb [124] st1).1=true
  ·rw[if_pos c2] at h ⊢;have p2:=eE c2;have p3:=p2.pos;by_cases c3:(rec 999 (bb [124] st1).2).1.2.2=true
   ·rw[if_pos c3] at h ⊢;have p4:=(eE h).pos;have p5:=(H.ok _ _ c3).pos;obtain⟨t1,t2⟩:=B.b 999 _ (p2.n5 ha1) c3;have:=FL (c:=(bb [124] st1).2.rest.length - (rec 999 (bb [124] st1).2).2.rest.length) ⟨t1,t2⟩ hB;refine⟨Nat.le_trans this.1 ?_,this.2⟩;dsimp only;omega
   ·rw[if_neg c3] at h;cases h
  ·rw[if_neg c2] at h ⊢;have p4:=(eE h).pos;have:=FL (c:=1) (t:=ie [91,93]) ⟨by decide,rfl⟩ hB;refine⟨Nat.le_trans this.1 ?_,this.2⟩;dsimp only;omega
 ·rw[if_neg c1] at h;cases h
theorem E8 (c:List UInt8) (f:Tm→Tm) (hf:∀b t,F9 b t→F9 (b+1) (f t)) (st:St) (ha:uX st) (h:(eZ rec c f st).1.2.2=true):F9 (st.rest.length - (eZ rec c f st).2.rest.length+1) (eZ rec c f st).1.1:=by
 unfold eZ at h ⊢;by_cases c1:(rec 1200 st).1.2.2=true
 ·rw[if_pos c1] at h ⊢;have p:=(H.ok _ _ c1).pos;have p4:=(eE h).pos;have:=hf _ _ (B.b 1200 st ha c1);refine⟨Nat.le_trans this.1 ?_,this.2⟩;dsimp only;omega
 ·rw[if_neg c1] at h;cases h
theorem O0 (M:Nat) (s:List UInt8) (hs:s.length≤64) (st:St) (ha:uX st) (h:(iC rec M s st).1.2.2=true):F9 (st.rest.length - (iC rec M s st).2.rest.length+1) (iC rec M s st).1.1:=by
 unfold iC at h ⊢;by_cases c1:(bw rec M [] st).1.2=true
 ·rw[if_pos c1] at h ⊢;have hB:=Bw H B M st ha c1;have p:=((ix H M [] st).2 c1).pos;have p4:=(eE h).pos
  have hne:1≤(bw rec M [] st).1.1.length:=by
   have:∀(M:Nat) (acc:List Tm) (st:St),(bw rec M acc st).1.2=true→acc.length+1≤(bw rec M acc st).1.1.length:=fun M=>by
    induction M with
    | zero=>intro acc st h;cases h
    | succ M ih=>
      intro acc st h;unfold bw at h ⊢;by_cases d1:(rec 999 st).1.2.2=true
      ·rw[if_pos d1] at h ⊢;by_cases d2:(bb [44] (rec 999 st).2).1=true
       ·rw[if_pos d2] at h ⊢;have:=ih _ _ h;simp only[List.length_append,List.length_cons,List.length_nil] at this;omega
       ·rw[if_neg d2];simp
      ·rw[if_neg d1] at h;cases h
   have:=this M [] st c1;simpa using this
  have:=vE (b:=st.rest.length - (bw rec M [] st).2.rest.length) (s:=s) (us:=(bw rec M [] st).1.1) hs (by have:=hB.1;omega) hB.2;refine⟨Nat.le_trans this.1 ?_,this.2⟩;dsimp only;omega
 ·rw[if_neg c1] at h;cases h
theorem OW (T:List bO) (M:Nat) (n:Int) (st:St) (ha:uX st) (h:(dQ rec T M n st).1.2.2=true):F9 (st.rest.length - (dQ rec T M n st).2.rest.length) (dQ rec T M n st).1.1:=by
 have hl:=cI st;have hl2:=cI (aC st);have ha1:(aQ st).kind≠0→uX (aC st):=fun hk=>(jw (bN hk)).n5 ha
 unfold dQ at h ⊢;by_cases k4:(aQ st).kind=4
 ·rw[if_pos k4];have hp:=bN (st:=st) (by omega);have hx:=Ar ha.tk hp;refine⟨by simp only[Tm.gU,List.length_nil];omega,?_⟩;show (decide (-9223372036854775808≤(aQ st).num)&&decide ((aQ st).num < 9223372036854775808))=true;simp only[Bool.and_eq_true,decide_eq_true_eq];omega
 rw[if_neg k4] at h ⊢;by_cases k3:(aQ st).kind=3
 ·rw[if_pos k3];have hp:=bN (st:=st) (by omega);have:=(KC (s:=(aQ st).text) hp).pos;have hn:st.next≤1000000:=by have:=ha.le;omega
  dsimp only
  suffices hh:F9 1 (jc (aQ st).text (aC st)).1 from⟨Nat.le_trans hh.1 (by omega),hh.2⟩
  unfold jc;split
  ·rename_i k hk;obtain⟨p,h1,h2⟩:=Gv hk;have:=ha.rg p h1;refine⟨by simp[Tm.gU],?_⟩;show (decide (-9223372036854775808≤k)&&decide (k < 9223372036854775808))=true;simp only[Bool.and_eq_true,decide_eq_true_eq];omega
  ·refine⟨by simp[Tm.gU],?_⟩;have e:(aC st).next=st.next:=rfl
   show (decide (-9223372036854775808≤((aC st).next:Int))&&decide (((aC st).next:Int) < 9223372036854775808))=true;simp only[Bool.and_eq_true,decide_eq_true_eq];omega
 rw[if_neg k3] at h ⊢;by_cases c1:(aQ st).kind=5∧(aQ st).text=[40]
 ·rw[if_pos c1] at h ⊢;have hp:=bN (st:=st) (by omega);have b:=E8 H B [41] (fun t=>t) (fun b t hb=>⟨Nat.le_trans hb.1 (by omega),hb.2⟩) _ (ha1 (by omega)) h;have hle:=(se H [41] (fun t=>t) (aC st)).1.len;exact⟨Nat.le_trans b.1 (by omega),b.2⟩
 rw[if_neg c1] at h ⊢;by_cases c2:(aQ st).kind=5∧(aQ st).text=[91]
 ·rw[if_pos c2] at h ⊢;have hp:=bN (st:=st) (by omega);have b:=PC H B M _ (ha1 (by omega)) h;have hle:=(zM H M (aC st)).1.len;exact⟨Nat.le_trans b.1 (by dsimp only;omega),b.2⟩
 rw[if_neg c2] at h ⊢;by_cases c3:(aQ st).kind=5∧(aQ st).text=[123]
 ·rw[if_pos c3] at h ⊢;have hp:=bN (st:=st) (by omega);have b:=E8 H B [125] (fun t=>cm [123,125] [t]) (fun b t hb=>vE (by decide) (by have:=hb.1;simp only[Tm.fi];omega) (by simp[Tm.hU,hb.2])) _ (ha1 (by omega)) h;have hle:=(se H [125] (fun t=>cm [123,125] [t]) (aC st)).1.len;exact⟨Nat.le_trans b.1 (by omega),b.2⟩
 rw[if_neg c3] at h ⊢;by_cases c4:(!eN (aQ st))=true
 ·rw[if_pos c4] at h;cases h
 rw[if_neg c4] at h ⊢;have hk:(aQ st).kind≠0:=fun h=>c4 (by unfold eN;rw[h];rfl)
 have hp:=bN hk;have hnm:(aQ st).text.length≤64:=Ct ha.tk (by simpa using c4);by_cases c5:(aQ st).ig=true
 ·rw[if_pos c5] at h ⊢;have o:=(zO H M (aQ st).text (aC (aC st))).2 h;have hle:=o.lv.len;have hp2:0 < (aC st).rest.length:=by have:=o.pos;omega
  have b:=O0 H B M (aQ st).text hnm _ ((jw hp2).n5 (ha1 hk)) h;exact⟨Nat.le_trans b.1 (by omega),b.2⟩
 rw[if_neg c5] at h ⊢;by_cases c6:(aQ st).kind=1∧(aQ st).text=[45]∧(aQ (aC st)).kind=4∧(aQ st).Qt=true
 ·rw[if_pos c6];have hp2:=bN (st:=aC st) (by omega);have hx:=Ar (ha1 hk).tk hp2;refine⟨by simp only[Tm.gU,List.length_nil];omega,?_⟩;show (decide (-9223372036854775808≤(-(aQ (aC st)).num))&&decide ((-(aQ (aC st)).num) < 9223372036854775808))=true;simp only[Bool.and_eq_true,decide_eq_true_eq];omega
 rw[if_neg c6] at h ⊢;unfold ch at h ⊢;have hat:F9 1 (ie (aQ st).text):=⟨by simp only[ie,Tm.gU];omega,rfl⟩
 by_cases d1:(aQ st).kind=2
 ·rw[if_pos d1];exact⟨Nat.le_trans hat.1 (by dsimp only;omega),hat.2⟩
 rw[if_neg d1] at h ⊢;by_cases d2:((cd T (aQ st).text true).2&&decide ((cd T (aQ st).text true).1.l≤n)&&fI T (aC st))=true
 ·rw[if_pos d2] at h ⊢;have b:=B.b _ _ (ha1 hk) h;have p:=(H.ok _ _ h).pos;have:=vE (b:=(aC st).rest.length - (rec (a7 (cd T (aQ st).text true).1).2 (aC st)).2.rest.length) (s:=(aQ st).text) (us:=[(rec (a7 (cd T (aQ st).text true).1).2 (aC st)).1.1]) hnm (by have:=b.1;simp only[Tm.fi];omega) (by simp[Tm.hU,b.2]);exact⟨Nat.le_trans this.1 (by dsimp only;omega),this.2⟩
 ·rw[if_neg d2];exact⟨Nat.le_trans hat.1 (by dsimp only;omega),hat.2⟩
theorem KG (T:List bO):∀(M:Nat) (n:Int) (r:PR) (st:St) (b:Nat),uX st→F9 b r.1→(dZ rec T M n r st).1.2.2=true→F9 (b+(st.rest.length - (dZ rec T M n r st).2.rest.length)) (dZ rec T M n r st).1.1
 | 0,n,r,st,b,_,hb,_=>⟨Nat.le_trans hb.1 (by omega),hb.2⟩
 | M+1,n,r,st,b,ha,hb,h=>by
   unfold dZ at h ⊢;by_cases h0:(!r.2.2)=true
   ·rw[if_pos h0];exact⟨Nat.le_trans hb.1 (by omega),hb.2⟩
   rw[if_neg h0] at h ⊢;by_cases h1:(!(db T (aQ st)).2||decide (n < (db T (aQ st)).1.l)||decide ((a7 (db T (aQ st)).1).1 < r.2.1))=true
   ·rw[if_pos h1];exact⟨Nat.le_trans hb.1 (by omega),hb.2⟩
   rw[if_neg h1] at h ⊢;have hl:=cI st
   have hkx:(aQ st).kind≠0∧(aQ st).text.length≤64:=by
    by_cases hn:eN (aQ st)=true
    ·refine⟨fun h=>?_,Ct ha.tk hn⟩;unfold eN at hn;rw[h] at hn;cases hn
    ·by_cases h5:(aQ st).kind=5∧(aQ st).text=[44]
     ·exact⟨by omega,by rw[h5.2];decide⟩
     ·refine absurd ?_ h1
      have:(db T (aQ st)).2=false:=by
       unfold db;rw[if_pos];rw[Bool.not_eq_true] at hn;rw[hn];simp only[Bool.not_false,Bool.true_and,Bool.or_eq_true,Bool.not_eq_true',decide_eq_false_iff_not];by_cases g:(aQ st).kind=5
       ·exact .inr fun g2=>h5 ⟨g,g2⟩
       ·exact .inl g
      rw[this];rfl
   have hp:=bN hkx.1;have oa:=jw hp;have ok2:=((ib H T M n _ _).2 h).1;have oq:=H.ok _ _ ok2;have bq:=B.b _ _ (oa.n5 ha) ok2;have pq:=oq.pos;have hle:=(ib H T M n (cm (aQ st).text [r.1,(rec (a7 (db T (aQ st)).1).2 (aC st)).1.1],(db T (aQ st)).1.l,(rec (a7 (db T (aQ st)).1).2 (aC st)).1.2.2) (rec (a7 (db T (aQ st)).1).2 (aC st)).2).1.len
   have hc:=vE (b:=b+((aC st).rest.length - (rec (a7 (db T (aQ st)).1).2 (aC st)).2.rest.length)) (s:=(aQ st).text) (us:=[r.1,(rec (a7 (db T (aQ st)).1).2 (aC st)).1.1]) hkx.2
    (by have:=bq.1;have:=hb.1;simp only[Tm.fi];omega) (by simp[Tm.hU,bq.2,hb.2])
   have i:=KG T M n _ _ _ ((oa.trans oq).n5 ha) hc h;exact⟨Nat.le_trans i.1 (by omega),i.2⟩
end
theorem Eh (T:List bO):∀N,RX (fE T N)
 | 0=>⟨fun n st _ h=>by cases h⟩
 | N+1=>⟨fun n st ha h=>by
   have H:=nv T N;have B:=Eh T N;unfold fE at h ⊢;have h1:=((ib H T (N+1) n _ _).2 h).1;have o:=(nH H T (N+1) n st).2 h1;have b:=OW H B T (N+1) n st ha h1;have hle:=(ib H T (N+1) n (dQ (fE T N) T (N+1) n st).1 (dQ (fE T N) T (N+1) n st).2).1.len;have i:=KG H B T (N+1) n _ _ _ (o.n5 ha) b h;have:=o.pos;exact⟨Nat.le_trans i.1 (by omega),i.2⟩⟩
def qe (e:gk):Prop:=e.kind=6∨(e.kind=5∧e.text=[41])
theorem tH {e:gk} (h:qe e) (T:List bO):db T e=(gG,false):=by
 unfold db eN;rcases h with h | ⟨h,h2⟩
 ·rw[h];rfl
 ·rw[h,h2];rfl
theorem yi {e:gk} (h:qe e):e.kind≠0∧e.kind≠3∧e.kind≠4:=by
 rcases h with h | ⟨h,_⟩<;>rw[h]<;>decide
theorem GO {e:gk} (h:qe e) {c:List UInt8} (hc:c≠[41]):¬ (e.kind=5∧e.text=c):=fun g=>by
 rcases h with h | ⟨_,h2⟩
 ·rw[h] at g;exact absurd g.1 (by decide)
 ·exact hc (g.2.symm.trans h2)
def Sw (Q Q':List gk) (d:Nat) (s s':St):Prop:=∃R,s.rest=R++Q∧s'.rest=R++Q'∧s'.at_=s.at_+d∧s'.next=s.next∧s'.names=s.names
section
variable {Q1 Q1':List gk} {e e':gk} {d:Nat} (he:qe e) (he':qe e')
section
variable {s s':St} (h:Sw (e::Q1) (e'::Q1') d s s')
include h
theorem oK (hl:Q1.length+1 < s.rest.length):aQ s'=aQ s:=by
 obtain⟨R,h1,h2,_⟩:=h;unfold aQ;rw[h1,h2]
 cases R with
 | nil=>rw[h1] at hl;simp at hl
 | cons x R=>rfl
theorem wb (hl:Q1.length+1 < s.rest.length):Sw (e::Q1) (e'::Q1') d (aC s) (aC s'):=by
 obtain⟨R,h1,h2,h3,h4,h5⟩:=h
 cases R with
 | nil=>rw[h1] at hl;simp at hl
 | cons x R=>
   refine⟨R,?_,?_,?_,h4,h5⟩
   ·show s.rest.tail=_;rw[h1];rfl
   ·show s'.rest.tail=_;rw[h2];rfl
   ·show s'.at_+1=s.at_+1+d;omega
theorem pQ (hl:¬ Q1.length+1 < s.rest.length):aQ s=e∧aQ s'=e'∧(aC s).rest.length=Q1.length:=by
 obtain⟨R,h1,h2,_⟩:=h
 cases R with
 | nil=>
   refine⟨?_,?_,?_⟩
   ·unfold aQ;rw[h1];rfl
   ·unfold aQ;rw[h2];rfl
   ·rw[cI,h1];simp
 | cons x R=>rw[h1] at hl;simp at hl;omega
theorem pA {c:List UInt8} (ht:(bb c s).1=true) (hl:Q1.length+1≤(bb c s).2.rest.length):(bb c s').1=true∧Sw (e::Q1) (e'::Q1') d (bb c s).2 (bb c s').2:=by
 by_cases hx:Q1.length+1 < s.rest.length
 ·have hs:=oK h hx;have ha:=wb h hx;unfold bb at ht hl ⊢;rw[hs];by_cases hc:(aQ s).kind=5∧(aQ s).text=c
  ·rw[if_pos hc,if_pos hc];exact⟨rfl,ha⟩
  ·rw[if_neg hc] at ht;cases ht
 ·have hs:=pQ h hx;unfold bb at ht hl;by_cases hc:(aQ s).kind=5∧(aQ s).text=c
  ·rw[if_pos hc] at hl;dsimp only at hl;omega
  ·rw[if_neg hc] at ht;cases ht
include he' in
theorem wF {c:List UInt8} (hc:c≠[41]) (ht:(bb c s).1=false):(bb c s').1=false:=by
 by_cases hx:Q1.length+1 < s.rest.length
 ·have hs:=oK h hx;unfold bb at ht ⊢;rw[hs];by_cases hk:(aQ s).kind=5∧(aQ s).text=c
  ·rw[if_pos hk] at ht;cases ht
  ·rw[if_neg hk]
 ·have hs:=pQ h hx;unfold bb;rw[hs.2.1,if_neg (GO he' hc)]
theorem Pw (x:List UInt8):(jc x s').1=(jc x s).1∧Sw (e::Q1) (e'::Q1') d (jc x s).2 (jc x s').2:=by
 obtain⟨R,h1,h2,h3,h4,h5⟩:=h;unfold jc;rw[h5]
 cases nV x s.names with
 | some n=>exact⟨rfl,R,h1,h2,h3,h4,h5⟩
 | none=>
   dsimp only;refine⟨by rw[h4],R,h1,h2,h3,by dsimp only;rw[h4],?_⟩;dsimp only;rw[h4]
include he he' in
theorem Mh (T:List bO):db T (aQ s')=db T (aQ s):=by
 by_cases hx:Q1.length+1 < s.rest.length
 ·rw[oK h hx]
 ·have hs:=pQ h hx;rw[hs.1,hs.2.1,tH he,tH he']
include he he' in
theorem Ie (T:List bO):fI T s'=fI T s:=by
 by_cases hx:Q1.length+1 < s.rest.length
 ·unfold fI;rw[oK h hx]
 ·have hs:=pQ h hx
  have st:∀{x:gk},qe x→(if x.kind=0∨x.kind=6 then false else if x.kind=5 then decide (x.text=[40])||decide (x.text=[91])||decide (x.text=[123]) else if !eN x||x.ig then true else !(cd T x.text false).2||(cd T x.text true).2)=false:=fun {x} hx=>by
   rcases hx with h | ⟨h,h2⟩
   ·rw[if_pos (.inr h)]
   ·rw[if_neg (by rw[h];decide),if_pos h,h2];rfl
  unfold fI;rw[hs.1,hs.2.1,st he,st he']
end
def Um (Q1 Q1':List gk) (e e':gk) (d:Nat) (rec:Int→St→PR×St):Prop:=∀n s s',Sw (e::Q1) (e'::Q1') d s s'→(rec n s).1.2.2=true→Q1.length+1≤(rec n s).2.rest.length→(rec n s').1=(rec n s).1∧Sw (e::Q1) (e'::Q1') d (rec n s).2 (rec n s').2
variable {rec:Int→St→PR×St} (H:uO rec) (W:Um Q1 Q1' e e' d rec)
include H W he'
theorem vU:∀(M:Nat) (acc:List Tm) (s s':St),Sw (e::Q1) (e'::Q1') d s s'→(bw rec M acc s).1.2=true→Q1.length+1≤(bw rec M acc s).2.rest.length→(bw rec M acc s').1=(bw rec M acc s).1∧Sw (e::Q1) (e'::Q1') d (bw rec M acc s).2 (bw rec M acc s').2
 | 0,acc,s,s',_,h,_=>by cases h
 | M+1,acc,s,s',hs,h,hl=>by
   unfold bw at h hl ⊢;by_cases h1:(rec 999 s).1.2.2=true
   ·rw[if_pos h1] at h hl ⊢;by_cases h2:(bb [44] (rec 999 s).2).1=true
    ·rw[if_pos h2] at h hl ⊢;have l1:=(ix H M (acc++[(rec 999 s).1.1]) (bb [44] (rec 999 s).2).2).1.len;have l2:=(iI [44] (rec 999 s).2).len;obtain⟨a1,a2⟩:=W 999 s s' hs h1 (by omega);obtain⟨b1,b2⟩:=pA a2 h2 (by omega);rw[a1,if_pos h1,if_pos b1];exact vU M _ _ _ b2 h hl
    ·rw[if_neg h2] at hl ⊢;obtain⟨a1,a2⟩:=W 999 s s' hs h1 hl;have b:=wF he' a2 (c:=[44]) (by decide) (by simpa using h2);rw[a1,if_pos h1,b,if_neg (by simp)];exact⟨rfl,a2⟩
   ·rw[if_neg h1] at h;cases h
theorem Mj (l:List Tm) (s s':St) (hs:Sw (e::Q1) (e'::Q1') d s s') (h:(gx rec l s).1.2=true) (hl:Q1.length+1≤(gx rec l s).2.rest.length):(gx rec l s').1=(gx rec l s).1∧Sw (e::Q1) (e'::Q1') d (gx rec l s).2 (gx rec l s').2:=by
 unfold gx at h hl ⊢;by_cases h1:(bb [124] s).1=true
 ·rw[if_pos h1] at h hl ⊢;by_cases h2:(rec 999 (bb [124] s).2).1.2.2=true
  ·rw[if_pos h2] at h hl ⊢;dsimp only at h hl ⊢;have l1:=(iI [93] (rec 999 (bb [124] s).2).2).len;have l2:=(H.lv 999 (bb [124] s).2).len;obtain⟨a1,a2⟩:=pA hs h1 (by omega);obtain⟨b1,b2⟩:=W 999 _ _ a2 h2 (by omega);obtain⟨c1,c2⟩:=pA b2 h hl;rw[if_pos a1,b1,if_pos h2,c1,h];exact⟨rfl,c2⟩
  ·rw[if_neg h2] at h;cases h
 ·rw[if_neg h1] at h hl ⊢;dsimp only at h hl ⊢;have a:=wF he' hs (c:=[124]) (by decide) (by simpa using h1);obtain⟨c1,c2⟩:=pA hs h hl;rw[a,if_neg (by simp),c1,h];exact⟨rfl,c2⟩
theorem Mr (M:Nat) (s s':St) (hs:Sw (e::Q1) (e'::Q1') d s s') (h:(gm rec M s).1.2=true) (hl:Q1.length+1≤(gm rec M s).2.rest.length):(gm rec M s').1=(gm rec M s).1∧Sw (e::Q1) (e'::Q1') d (gm rec M s).2 (gm rec M s').2:=by
 unfold gm at h hl ⊢;by_cases h1:(bw rec M [] s).1.2=true
 ·rw[if_pos h1] at h hl ⊢;have l1:=(F4 H (bw rec M [] s).1.1 (bw rec M [] s).2).1.len;obtain⟨a1,a2⟩:=vU he' H W M [] s s' hs h1 (by omega);rw[a1,if_pos h1];exact Mj he' H W _ _ _ a2 h hl
 ·rw[if_neg h1] at h;cases h
theorem CZ (c:List UInt8) (f:Tm→Tm) (s s':St) (hs:Sw (e::Q1) (e'::Q1') d s s') (h:(eZ rec c f s).1.2.2=true) (hl:Q1.length+1≤(eZ rec c f s).2.rest.length):(eZ rec c f s').1=(eZ rec c f s).1∧Sw (e::Q1) (e'::Q1') d (eZ rec c f s).2 (eZ rec c f s').2:=by
 unfold eZ at h hl ⊢;by_cases h1:(rec 1200 s).1.2.2=true
 ·rw[if_pos h1] at h hl ⊢;dsimp only at h hl ⊢;have l1:=(iI c (rec 1200 s).2).len;obtain⟨a1,a2⟩:=W 1200 s s' hs h1 (by omega);obtain⟨c1,c2⟩:=pA a2 h hl;rw[a1,if_pos h1,c1,h];exact⟨rfl,c2⟩
 ·rw[if_neg h1] at h;cases h
theorem M3 (M:Nat) (x:List UInt8) (s s':St) (hs:Sw (e::Q1) (e'::Q1') d s s') (h:(iC rec M x s).1.2.2=true) (hl:Q1.length+1≤(iC rec M x s).2.rest.length):(iC rec M x s').1=(iC rec M x s).1∧Sw (e::Q1) (e'::Q1') d (iC rec M x s).2 (iC rec M x s').2:=by
 unfold iC at h hl ⊢;by_cases h1:(bw rec M [] s).1.2=true
 ·rw[if_pos h1] at h hl ⊢;dsimp only at h hl ⊢;have l1:=(iI [41] (bw rec M [] s).2).len;obtain⟨a1,a2⟩:=vU he' H W M [] s s' hs h1 (by omega);obtain⟨c1,c2⟩:=pA a2 h hl;rw[a1,if_pos h1,c1,h];exact⟨rfl,c2⟩
 ·rw[if_neg h1] at h;cases h
include he
theorem Mw (T:List bO) (M:Nat) (n:Int) (s s':St) (hs:Sw (e::Q1) (e'::Q1') d s s') (h:(dQ rec T M n s).1.2.2=true) (hl:Q1.length+1≤(dQ rec T M n s).2.rest.length):(dQ rec T M n s').1=(dQ rec T M n s).1∧Sw (e::Q1) (e'::Q1') d (dQ rec T M n s).2 (dQ rec T M n s').2:=by
 have hx:Q1.length+1 < s.rest.length:=by
  have o:=((nH H T M n s).2 h).pos;omega
 have hsee:=oK hs hx;have ha:=wb hs hx;have al:=cI s;unfold dQ at h hl ⊢;rw[hsee];by_cases k4:(aQ s).kind=4
 ·rw[if_pos k4,if_pos k4];exact⟨rfl,ha⟩
 rw[if_neg k4] at h hl ⊢;rw[if_neg k4];by_cases k3:(aQ s).kind=3
 ·rw[if_pos k3,if_pos k3];obtain⟨a1,a2⟩:=Pw ha (aQ s).text;rw[a1];exact⟨rfl,a2⟩
 rw[if_neg k3] at h hl ⊢;rw[if_neg k3];by_cases c1:(aQ s).kind=5∧(aQ s).text=[40]
 ·rw[if_pos c1] at h hl ⊢;rw[if_pos c1];exact CZ he' H W _ _ _ _ ha h hl
 rw[if_neg c1] at h hl ⊢;rw[if_neg c1];by_cases c2:(aQ s).kind=5∧(aQ s).text=[91]
 ·rw[if_pos c2] at h hl ⊢;rw[if_pos c2];obtain⟨a1,a2⟩:=Mr he' H W M _ _ ha h hl;rw[a1];exact⟨rfl,a2⟩
 rw[if_neg c2] at h hl ⊢;rw[if_neg c2];by_cases c3:(aQ s).kind=5∧(aQ s).text=[123]
 ·rw[if_pos c3] at h hl ⊢;rw[if_pos c3];exact CZ he' H W _ _ _ _ ha h hl
 rw[if_neg c3] at h hl ⊢;rw[if_neg c3];by_cases c4:(!eN (aQ s))=true
 ·rw[if_pos c4] at h;cases h
 rw[if_neg c4] at h hl ⊢;rw[if_neg c4];by_cases c5:(aQ s).ig=true
 ·rw[if_pos c5] at h hl ⊢;rw[if_pos c5];have l1:=(zO H M (aQ s).text (aC (aC s))).1.len;have l2:=cI (aC s);exact M3 he' H W M _ _ _ (wb ha (by omega)) h hl
 rw[if_neg c5] at h hl ⊢;rw[if_neg c5]
 have hk:(aQ (aC s')).kind=4↔(aQ (aC s)).kind=4:=by
  by_cases hy:Q1.length+1 < (aC s).rest.length
  ·rw[oK ha hy]
  ·have hz:=pQ ha hy;rw[hz.1,hz.2.1];exact⟨fun g=>absurd g (yi he').2.2,fun g=>absurd g (yi he).2.2⟩
 by_cases c6:(aQ s).kind=1∧(aQ s).text=[45]∧(aQ (aC s)).kind=4∧(aQ s).Qt=true
 ·have c6':(aQ s).kind=1∧(aQ s).text=[45]∧(aQ (aC s')).kind=4∧(aQ s).Qt=true:=⟨c6.1,c6.2.1,hk.2 c6.2.2.1,c6.2.2.2⟩
  rw[if_pos c6] at h hl ⊢;rw[if_pos c6'];have l2:=cI (aC s)
  have hy:Q1.length+1 < (aC s).rest.length:=by
   have:=bN (st:=aC s) (by rw[c6.2.2.1];decide);change Q1.length+1≤(aC (aC s)).rest.length at hl;omega
  rw[oK ha hy];exact⟨rfl,wb ha hy⟩
 have c6':¬ ((aQ s).kind=1∧(aQ s).text=[45]∧(aQ (aC s')).kind=4∧(aQ s).Qt=true):=fun g=>c6 ⟨g.1,g.2.1,hk.1 g.2.2.1,g.2.2.2⟩
 rw[if_neg c6] at h hl ⊢;rw[if_neg c6'];unfold ch at h hl ⊢;rw[Ie he he' ha];by_cases d1:(aQ s).kind=2
 ·rw[if_pos d1,if_pos d1];exact⟨rfl,ha⟩
 rw[if_neg d1] at h hl ⊢;rw[if_neg d1];by_cases d2:((cd T (aQ s).text true).2&&decide ((cd T (aQ s).text true).1.l≤n)&&fI T (aC s))=true
 ·rw[if_pos d2] at h hl ⊢;rw[if_pos d2];obtain⟨a1,a2⟩:=W _ _ _ ha h hl;rw[a1];exact⟨rfl,a2⟩
 ·rw[if_neg d2,if_neg d2];exact⟨rfl,ha⟩
theorem Gr (T:List bO):∀(M:Nat) (n:Int) (r:PR) (s s':St),Sw (e::Q1) (e'::Q1') d s s'→(dZ rec T M n r s).1.2.2=true→Q1.length+1≤(dZ rec T M n r s).2.rest.length→(dZ rec T M n r s').1=(dZ rec T M n r s).1∧Sw (e::Q1) (e'::Q1') d (dZ rec T M n r s).2 (dZ rec T M n r s').2
 | 0,n,r,s,s',hs,_,_=>⟨rfl,hs⟩
 | M+1,n,r,s,s',hs,h,hl=>by
   have hb:=Mh he he' hs T;unfold dZ at h hl ⊢;rw[hb];by_cases h0:(!r.2.2)=true
   ·rw[if_pos h0,if_pos h0];exact⟨rfl,hs⟩
   rw[if_neg h0] at h hl ⊢;rw[if_neg h0];by_cases h1:(!(db T (aQ s)).2||decide (n < (db T (aQ s)).1.l)||decide ((a7 (db T (aQ s)).1).1 < r.2.1))=true
   ·rw[if_pos h1,if_pos h1];exact⟨rfl,hs⟩
   rw[if_neg h1] at h hl ⊢;rw[if_neg h1]
   have hx:Q1.length+1 < s.rest.length:=by
    refine Decidable.byContradiction fun hx=>h1 ?_
    rw[(pQ hs hx).1,tH he];rfl
   have l1:=(ib H T M n (cm (aQ s).text [r.1,(rec (a7 (db T (aQ s)).1).2 (aC s)).1.1],(db T (aQ s)).1.l,(rec (a7 (db T (aQ s)).1).2 (aC s)).1.2.2) (rec (a7 (db T (aQ s)).1).2 (aC s)).2).1.len;have l2:=((ib H T M n (cm (aQ s).text [r.1,(rec (a7 (db T (aQ s)).1).2 (aC s)).1.1],(db T (aQ s)).1.l,(rec (a7 (db T (aQ s)).1).2 (aC s)).1.2.2) (rec (a7 (db T (aQ s)).1).2 (aC s)).2).2 h).1;obtain⟨a1,a2⟩:=W _ _ _ (wb hs hx) l2 (by omega);rw[oK hs hx,a1];exact Gr T M n _ _ _ a2 h hl
end
theorem Gk {Q1 Q1':List gk} {e e':gk} {d:Nat} (he:qe e) (he':qe e') (T:List bO):∀N,Um Q1 Q1' e e' d (fE T N)
 | 0=>fun n s s' _ h _=>by cases h
 | N+1=>fun n s s' hs h hl=>by
   have H:=nv T N;have W:Um Q1 Q1' e e' d (fE T N):=Gk he he' T N;unfold fE at h hl ⊢;have l1:=(ib H T (N+1) n (dQ (fE T N) T (N+1) n s).1 (dQ (fE T N) T (N+1) n s).2).1.len;have l2:=((ib H T (N+1) n (dQ (fE T N) T (N+1) n s).1 (dQ (fE T N) T (N+1) n s).2).2 h).1;obtain⟨a1,a2⟩:=Mw he he' H W T (N+1) n s s' hs l2 (by omega);rw[a1];exact Gr he he' H W T (N+1) n _ _ _ a2 h hl
theorem I5 {Q1 Q1':List gk} {e e':gk} {d:Nat} (he:qe e) (he':qe e') (T:List bO) {n:Int} {s s':St} (hs:Sw (e::Q1) (e'::Q1') d s s') (h:(af T n s).1.2.2=true) (hl:Q1.length+1≤(af T n s).2.rest.length):(af T n s').1=(af T n s).1∧Sw (e::Q1) (e'::Q1') d (af T n s).2 (af T n s').2:=by
 have a1:fE T (max s.rest.length s'.rest.length+1) n s=af T n s:=zx T (by omega) n;have a2:fE T (max s.rest.length s'.rest.length+1) n s'=af T n s':=zx T (by omega) n;rw[←a1] at h hl ⊢;rw[←a2];exact Gk he he' T _ n s s' hs h hl
end Go.Proofs.YtjmeonoabiliiaaGreatDoor

namespace Sz
theorem NF (o:bj):ff (fun i=>i) o=o:=by
 cases o with
 | dead=>rfl
 | row cs=>
   simp only[ff];congr 1;conv=>rhs;rw[←List.map_id cs]
   exact List.map_congr_left fun v _=>w9
 | map es=>
   simp only[ff];congr 1;conv=>rhs;rw[←List.map_id es]
   exact List.map_congr_left fun e _=>by rw[w9,w9];rfl
theorem EV {P:Go.Program} {X:Go.World→Prop} {E:Env} (hE:b8 P X E) {n f:Nat} {rest:List AV} {os:List bj} {v:AV} {h1:aa} (he:az E n f (.ptr 0 0::rest) (tP os)=some (v,h1)) (hg:∀i,i < os.length→h1.get i=os[i]?)
 (hv:v.refs=0) (hr:AV.aq rest=0) (h0:0 < os.length) (hc:∀o ∈ os,xP os.length o=true):b9 P X f (.ptr 0 0::rest) os v none:=
 vm (qs:=[]) hE he hv (fun a ha=>by
  rcases List.mem_cons.1 ha with rfl | ha
  ·exact decide_eq_true h0
  ·exact jO _ (by have:=AV.cH ha;omega)) (Nat.le_refl _) (vn (by simp) (by simp) (by simp) fun i o ho _=>by
   simp only[Option.getD] at ho;obtain⟨hi,rfl⟩:=List.getElem?_eq_some_iff.1 ho;have hl:=hc _ (List.getElem_mem hi);refine⟨?_,hl⟩
   have e:ff (n6 os.length []) os[i]=os[i]:=by
    rw[B6 (g':=fun i=>i) (fun j hj=>by unfold n6;rw[if_pos hj]) hl,NF]
   rw[e];have e2:n6 os.length [] i=i:=by unfold n6;rw[if_pos hi]
   rw[e2,hg i hi];exact List.getElem?_eq_getElem hi)
end Sz
namespace Go.Proofs.YtjmeonoabiliiaaGreatDoor
open Go Sz
def u7 (ps:List (Int×Int)):Bool:=ps.all fun p=>decide (0≤p.2)&&decide (p.2 < 1000000000)
structure Wr where
 T:List bO
 b:Bool
 ps:List (Int×Int)
theorem LH (a b:List UInt8):(a==b)=decide (a=b):=by
 by_cases h:a=b
 ·subst h;simp
 ·rw[decide_eq_false h];simpa using h
end Go.Proofs.YtjmeonoabiliiaaGreatDoor

namespace Sz
theorem vq {P:Go.Program} {X:Go.World→Prop} {E:Env} (hE:b8 P X E) {n f:Nat} {rest:List AV} {os os':List bj} {v:AV} {h1:aa} {qs:List Nat} (he:az E n f (.ptr 0 0::rest) (tP os)=some (v,h1)) (hv:v.refs=0)
 (hr:AV.aq rest=0) (h0:0 < os.length) (hle:os.length≤os'.length) (hs:xL h1 (n6 os.length qs) os'):b9 P X f (.ptr 0 0::rest) os v (some os'):=
 vm hE he hv (fun a ha=>by
  rcases List.mem_cons.1 ha with rfl | ha
  ·exact decide_eq_true h0
  ·exact jO _ (by have:=AV.cH ha;omega)) hle hs
end Sz
namespace Go.Proofs.YtjmeonoabiliiaaGreatDoor
open Go Sz
def ak (l:List (List UInt8×Int)):List AV:=l.flatMap fun p=>[.str p.1,.int .i64 p.2]
theorem mU (l:List (List UInt8×Int)):(ak l).length=l.length*2:=by
 induction l with
 | nil=>rfl
 | cons p r ih=>simp[ak] at ih ⊢;omega
theorem ah (l:List (List UInt8×Int)):AV.aq (ak l)=0:=by
 induction l with
 | nil=>rfl
 | cons p r ih=>
   have e:ak (p::r)=.str p.1::.int .i64 p.2::ak r:=rfl;rw[e];simp only[AV.aq,ih,AV.refs];rfl
theorem Dz (l:List (List UInt8×Int)) (p:List UInt8×Int):ak (l++[p])=ak l++[.str p.1,.int .i64 p.2]:=by simp[ak]
def ux:List AV→Option (List (List UInt8×Int))
 | []=>some []
 | .str s::.int .i64 n::r=>(ux r).map ((s,n)::·)
 | _=>none
theorem BK:∀l,ux (ak l)=some l
 | []=>rfl
 | p::r=>by
   have e:ak (p::r)=.str p.1::.int .i64 p.2::ak r:=rfl;rw[e,ux,BK r];rfl
theorem yU:∀{xs:List AV} {l:List (List UInt8×Int)},ux xs=some l→xs=ak l
 | [],l,h=>by simp[ux] at h;subst h;rfl
 | x::r,l,h=>by
   unfold ux at h;split at h
   ·rename_i he;cases he
   ·rename_i s n q he;cases he;simp only[Option.map_eq_some_iff] at h;obtain⟨a,h1,rfl⟩:=h;rw[yU h1];rfl
   ·cases h
def kA (k:Nat) (l:List (List UInt8×Int)):AV:=match l with
 | []=>.aA
 | _::_=>.vec k 0 l.length 2 l.length
def s8 (l:List (List UInt8×Int)):List bj:=match l with
 | []=>[]
 | _::_=>[.row (ak l)]
def Nj:AV→List bj→Option (List (List UInt8×Int))
 | .aA,[]=>some []
 | .vec 1 0 n 2 m,[.row F]=>(match ux F with
   | some l=>if l≠[]∧n=l.length∧m=l.length then some l else none
   | none=>none)
 | _,_=>none
theorem Mk (l:List (List UInt8×Int)):Nj (kA 1 l) (s8 l)=some l:=by
 cases l with
 | nil=>rfl
 | cons p r=>
   show (match ux (ak (p::r)) with | some l=>if l≠[]∧(p::r).length=l.length∧(p::r).length=l.length then some l else none | none=>none)=_;rw[BK];exact if_pos ⟨by simp,rfl,rfl⟩
theorem KU {v:AV} {os:List bj} {l:List (List UInt8×Int)} (h:Nj v os=some l):v=kA 1 l∧os=s8 l:=by
 unfold Nj at h;split at h
 ·cases h;exact⟨rfl,rfl⟩
 ·split at h
  ·rename_i l' hl;split at h
   ·rename_i hc;cases h;obtain⟨h1,rfl,rfl⟩:=hc;rw[yU hl]
    cases l with
    | nil=>exact absurd rfl h1
    | cons p r=>exact⟨rfl,rfl⟩
   ·cases h
  ·cases h
 ·cases h
def rP:AV→Option Tok
 | .agg [.int .i64 k,.str t,.int .i64 n,.bool o,.int .i64 a]=>some ⟨k,t,n,o,a⟩
 | _=>none
theorem yk (t:Tok):rP t.enc=some t:=rfl
theorem rK {v:AV} {t:Tok} (h:rP v=some t):v=t.enc:=by
 unfold rP at h;split at h
 ·cases h;rfl
 ·cases h
def tY:List AV→Option (List Tok)
 | []=>some []
 | v::r=>match rP v,tY r with
   | some t,some l=>some (t::l)
   | _,_=>none
theorem vM:∀l:List Tok,tY (l.map Tok.enc)=some l
 | []=>rfl
 | t::r=>by
   show (match rP t.enc,tY (r.map Tok.enc) with | some t,some l=>some (t::l) | _,_=>none)=_;rw[yk,vM r]
theorem yL:∀{xs:List AV} {l:List Tok},tY xs=some l→xs=l.map Tok.enc
 | [],l,h=>by cases h;rfl
 | v::r,l,h=>by
   unfold tY at h;split at h
   ·rename_i o os h1 h2;cases h;rw[rK h1,yL h2];rfl
   ·cases h
def br:AV→Option (List Tok)
 | .aA=>some []
 | .sl xs=>tY xs
 | _=>none
theorem ow {y:AV} {l:List Tok} (h:br y=some l):(y=.aA∧l=[])∨y=.sl (l.map Tok.enc):=by
 cases y<;>simp[br] at h
 ·exact .inl ⟨rfl,h⟩
 ·exact .inr (by rw[yL h])
theorem yH (l:List Tok):br (sj l)=some l:=by
 cases l with
 | nil=>rfl
 | cons t r=>exact vM (t::r)
structure Laid (x:AV):Prop where
 refs:x.refs=0
 top:x.top=none
 ok:∀τ,okV τ x=true
 sg:∀g,sig g x=x
 fr:∀h n d,hZ h n (d+1) x=some (x,[])
 cl:x.cells=[x]
 Lx:x.cells? =some [x]
theorem yX:Laid .aA:=⟨rfl,rfl,fun _=>rfl,fun _=>rfl,fun _ _ _=>rfl,rfl,rfl⟩
theorem FN (xs:List AV):Laid (.sl xs):=⟨rfl,rfl,fun _=>rfl,fun _=>rfl,fun _ _ _=>rfl,rfl,rfl⟩
theorem bD {x:AV} {T:List bO} (h:bx x=some T):Laid x:=by
 rcases jR h with⟨rfl,_⟩ | rfl
 ·exact yX
 ·exact FN _
theorem bo {y:AV} {L:List Tok} (h:br y=some L):Laid y:=by
 rcases ow h with⟨rfl,_⟩ | rfl
 ·exact yX
 ·exact FN _
theorem J4 (l:List (List UInt8×Int)) (τ:List Nat):(ak l).all (okV τ)=true:=by
 rw[List.all_eq_true];intro v hv;obtain⟨p,_,hp⟩:=List.mem_flatMap.1 hv;simp only[List.mem_cons,List.not_mem_nil,or_false] at hp;rcases hp with rfl | rfl<;>rfl
theorem IZ (l:List (List UInt8×Int)) (g:Nat→Nat):(ak l).map (sig g)=ak l:=by
 conv=>rhs;rw[←List.map_id (ak l)]
 refine List.map_congr_left fun v hv=>?_
 obtain⟨p,_,hp⟩:=List.mem_flatMap.1 hv;simp only[List.mem_cons,List.not_mem_nil,or_false] at hp;rcases hp with rfl | rfl<;>rfl
structure RC (T:List bO) (L:List Tok) (st:St):Prop where
 rest:st.rest=(iO L).drop st.at_
 le:st.at_≤L.length+1
 nx:st.next≤st.at_
 nm:st.names.length≤st.next
 lb:L.length≤100000
 tb:T.length < 1000000
 tk:(iO L).all sA=true
 rg:∀p ∈ st.names,0≤p.2∧p.2 < st.next
 Hm:AA st.names=true
 rj:(L.all fun t=>decide (0≤t.at_)&&decide (t.at_ < 1000000))=true
structure Rd where
 x:AV
 y:AV
 T:List bO
 L:List Tok
 st:St
noncomputable def qJ:List bj→Option Rd
 | .row [x,y,.int .i64 a,.int .i64 b,v]::os=>(match bx x,br y,Nj v os with
   | some T,some L,some l=>open Classical in if 0≤a∧0≤b∧RC T L ⟨a.toNat,(iO L).drop a.toNat,b.toNat,l⟩ then some ⟨x,y,T,L,⟨a.toNat,(iO L).drop a.toNat,b.toNat,l⟩⟩ else none
   | _,_,_=>none)
 | _=>none
def dj (x y:AV) (st:St):List bj:=.row [x,y,.int .i64 st.at_,.int .i64 st.next,kA 1 st.names]::s8 st.names
theorem iG {x y:AV} {T:List bO} {L:List Tok} {st:St} (hx:bx x=some T) (hy:br y=some L) (h:RC T L st):qJ (dj x y st)=some ⟨x,y,T,L,st⟩:=by
 have e:(⟨(st.at_:Int).toNat,(iO L).drop (st.at_:Int).toNat,(st.next:Int).toNat,st.names⟩:St)=st:=by
  rw[Int.toNat_natCast,Int.toNat_natCast,←h.rest]
 unfold dj qJ;simp only[hx,hy,Mk];rw[e];exact if_pos ⟨by omega,by omega,h⟩
theorem gN {os:List bj} {R:Rd} (h:qJ os=some R):bx R.x=some R.T∧br R.y=some R.L∧os=dj R.x R.y R.st∧RC R.T R.L R.st:=by
 unfold qJ at h;split at h
 ·rename_i x y a b v os;split at h
  ·rename_i T L l h1 h2 h3;split at h
   ·rename_i hc;cases h;obtain⟨rfl,rfl⟩:=KU h3;refine⟨h1,h2,?_,hc.2.2⟩;unfold dj;dsimp only;rw[Int.toNat_of_nonneg hc.1,Int.toNat_of_nonneg hc.2.1]
   ·cases h
  ·cases h
 ·cases h
def dm (x y:AV) (l:List (List UInt8×Int)) (st':St):List bj:=match l with
 | []=>dj x y st'
 | _::_=>[.row [x,y,.int .i64 st'.at_,.int .i64 st'.next,kA 2 st'.names],.dead,.row (ak st'.names)]
theorem o9 {x y:AV} (hx:Laid x) (hy:Laid y) (g:Nat→Nat) (a b:Int) (v:AV):ff g (.row [x,y,.int .i64 a,.int .i64 b,v])=.row [x,y,.int .i64 a,.int .i64 b,sig g v]:=by
 show bj.row [sig g x,sig g y,.int .i64 a,.int .i64 b,sig g v]=_;rw[hx.sg,hy.sg]
theorem s0 {x y:AV} (hx:Laid x) (hy:Laid y) {n:Nat} (a b:Int) {v:AV} (hv:nE n v=true):xP n (.row [x,y,.int .i64 a,.int .i64 b,v])=true:=by
 simp only[xP,List.all_cons,List.all_nil,Bool.and_true,jO n hx.refs,jO n hy.refs,hv];rfl
theorem cT {x y:AV} (hx:Laid x) (hy:Laid y) (a b:Int):fb [x,y,.int .i64 a,.int .i64 b,.aA] [0]=[0]:=by
 simp only[fb,hx.top,hy.top];rfl
theorem cR {x y:AV} (hx:Laid x) (hy:Laid y) (a b:Int) (k l:Nat) (hk:(0=k)=False):fb [x,y,.int .i64 a,.int .i64 b,.vec k 0 l 2 l] [0]=[0,k]:=by
 simp only[fb,hx.top,hy.top];show (if oF [0] k then ([0]:List Nat) else [0,k])=_;simp only[oF,hk,if_false];rfl
theorem cU {x y:AV} (hx:Laid x) (hy:Laid y) (τ:List Nat) (a b:Int):okO τ (.row [x,y,.int .i64 a,.int .i64 b,.aA])=true:=by
 simp only[okO,List.all_cons,List.all_nil,hx.ok,hy.ok];rfl
theorem cS {x y:AV} (hx:Laid x) (hy:Laid y) (τ:List Nat) (a b:Int) (k l:Nat):okO τ (.row [x,y,.int .i64 a,.int .i64 b,.vec k 0 l 2 l])=oF τ k:=by
 simp only[okO,List.all_cons,List.all_nil,hx.ok,hy.ok];show (true&&(true&&(true&&(true&&(oF τ k&&true)))))=_;simp
theorem cV {x y:AV} (hx:Laid x) (hy:Laid y) (g:Nat→Nat) (a b:Int):ff g (.row [x,y,.int .i64 a,.int .i64 b,.aA])=.row [x,y,.int .i64 a,.int .i64 b,.aA]:=o9 hx hy g a b .aA
theorem cQ {x y:AV} (hx:Laid x) (hy:Laid y) (g:Nat→Nat) (a b:Int) (k l:Nat):ff g (.row [x,y,.int .i64 a,.int .i64 b,.vec k 0 l 2 l])=.row [x,y,.int .i64 a,.int .i64 b,.vec (g k) 0 l 2 l]:=o9 hx hy g a b _
theorem aF (l:List (List UInt8×Int)) (τ:List Nat):okO τ (.row (ak l))=true:=J4 l τ
theorem aE (l:List (List UInt8×Int)) (g:Nat→Nat):ff g (.row (ak l))=.row (ak l):=congrArg bj.row (IZ l g)
section
variable {X:World→Prop} {P:Program} {E:Env} (hE:b8 P X E) {n f:Nat} {rest:List AV} {x y v:AV} {st st':St} (hx:Laid x) (hy:Laid y)
include hE hx hy
theorem di (h0:st.names=[]) (h1:st'.names=[]) (he:(az E n f (.ptr 0 0::rest) (tP [.row [x,y,.int .i64 st.at_,.int .i64 st.next,.aA]])).map (fun p=>(p.1,p.2.get 0))=some (v,some (.row [x,y,.int .i64 st'.at_,.int .i64 st'.next,.aA])))
 (hv:v.refs=0) (hr:AV.aq rest=0):b9 P X f (.ptr 0 0::rest) (dj x y st) v (some (dm x y st.names st')):=by
 have e1:dj x y st=[.row [x,y,.int .i64 st.at_,.int .i64 st.next,.aA]]:=by unfold dj;rw[h0];rfl
 have e2:dm x y st.names st'=[.row [x,y,.int .i64 st'.at_,.int .i64 st'.next,.aA]]:=by unfold dm;rw[h0];unfold dj;rw[h1];rfl
 rw[e1,e2];exact pK hE he hv hr (by simp[AV.aq,hx.refs,hy.refs,AV.refs])
theorem dE (k:Nat) (hk:1≤k) (h0:st.names=[]) (h1:st'.names≠[]) (he:(az E n f (.ptr 0 0::rest) (tP [.row [x,y,.int .i64 st.at_,.int .i64 st.next,.aA]])).map (fun p=>(p.1,p.2.get 0,p.2.get k))=
 some (v,some (.row [x,y,.int .i64 st'.at_,.int .i64 st'.next,.vec k 0 st'.names.length 2 st'.names.length]),some (.row (ak st'.names))))
 (hv:v.refs=0) (hr:AV.aq rest=0):b9 P X f (.ptr 0 0::rest) (dj x y st) v (some (dm x y st.names st')):=by
 have e1:dj x y st=[.row [x,y,.int .i64 st.at_,.int .i64 st.next,.aA]]:=by unfold dj;rw[h0];rfl
 have e2:dm x y st.names st'=[.row [x,y,.int .i64 st'.at_,.int .i64 st'.next,.vec 1 0 st'.names.length 2 st'.names.length],.row (ak st'.names)]:=by
  unfold dm;rw[h0];unfold dj kA s8
  cases hn:st'.names with
  | nil=>exact absurd hn h1
  | cons p r=>rfl
 rw[e1,e2];obtain⟨⟨v1,h⟩,g1,g2⟩:=Option.map_eq_some_iff.1 he;simp only[Prod.mk.injEq] at g2;obtain⟨rfl,g3,g4⟩:=g2;refine vq (qs:=[k]) hE g1 hv hr (by simp) (by simp) ⟨fun i o ho _=>?_,fun i j o o' hi hj _ _ e=>?_⟩
 ·match i,ho with
  | 0,ho=>
    simp only[List.getElem?_cons_zero,Option.some.injEq] at ho;subst ho;rw[o9 hx hy];exact⟨g3,s0 hx hy _ _ (by rfl)⟩
  | 1,ho=>
    simp only[List.getElem?_cons_succ,List.getElem?_cons_zero,Option.some.injEq] at ho;subst ho;rw[mD _ (ah _)];exact⟨g4,kM _ (ah _)⟩
  | i+2,ho=>simp at ho
 ·have hi':=(List.getElem?_eq_some_iff.1 hi).1;have hj':=(List.getElem?_eq_some_iff.1 hj).1;simp only[List.length_cons,List.length_nil] at hi' hj'
  have r0:∀i,i < 2→n6 1 [k] i=if i=0 then 0 else k:=fun i hi=>by
   match i,hi with
   | 0,_=>rfl
   | 1,_=>rfl
  rw[List.length_cons,List.length_nil,r0 i hi',r0 j hj'] at e;split at e<;>split at e<;>omega
theorem cX (k:Nat) (hk:1≤k) (h0:st.names≠[]) (h1:st'.names≠[]) (he:(az E n f (.ptr 0 0::rest) (tP [.row [x,y,.int .i64 st.at_,.int .i64 st.next,.vec 1 0 st.names.length 2 st.names.length],.row (ak st.names)])).map (fun p=>(p.1,p.2.get 0,p.2.get k))=
 some (v,some (.row [x,y,.int .i64 st'.at_,.int .i64 st'.next,.vec k 0 st'.names.length 2 st'.names.length]),some (.row (ak st'.names))))
 (hv:v.refs=0) (hr:AV.aq rest=0):b9 P X f (.ptr 0 0::rest) (dj x y st) v (some (dm x y st.names st')):=by
 have e1:dj x y st=[.row [x,y,.int .i64 st.at_,.int .i64 st.next,.vec 1 0 st.names.length 2 st.names.length],.row (ak st.names)]:=by
  unfold dj kA s8
  cases hn:st.names with
  | nil=>exact absurd hn h0
  | cons p r=>rfl
 have e2:dm x y st.names st'=[.row [x,y,.int .i64 st'.at_,.int .i64 st'.next,.vec 2 0 st'.names.length 2 st'.names.length],.dead,.row (ak st'.names)]:=by
  unfold dm
  cases hn:st.names with
  | nil=>exact absurd hn h0
  | cons p r=>
    dsimp only;unfold kA
    cases hm:st'.names with
    | nil=>exact absurd hm h1
    | cons q s=>rfl
 rw[e1,e2];obtain⟨⟨v1,h⟩,g1,g2⟩:=Option.map_eq_some_iff.1 he;simp only[Prod.mk.injEq] at g2;obtain⟨rfl,g3,g4⟩:=g2;refine vq (qs:=[k]) hE g1 hv hr (by simp) (by simp) ⟨fun i o ho hd=>?_,fun i j o o' hi hj hdi hdj e=>?_⟩
 ·match i,ho with
  | 0,ho=>
    simp only[List.getElem?_cons_zero,Option.some.injEq] at ho;subst ho;rw[o9 hx hy];exact⟨g3,s0 hx hy _ _ (by rfl)⟩
  | 1,ho=>
    simp only[List.getElem?_cons_succ,List.getElem?_cons_zero,Option.some.injEq] at ho;exact absurd ho.symm hd
  | 2,ho=>
    simp only[List.getElem?_cons_succ,List.getElem?_cons_zero,Option.some.injEq] at ho;subst ho;rw[mD _ (ah _)];exact⟨g4,kM _ (ah _)⟩
  | i+3,ho=>simp at ho
 ·have pick:∀(i:Nat) (o:bj),([.row [x,y,.int .i64 st'.at_,.int .i64 st'.next,.vec 2 0 st'.names.length 2 st'.names.length],.dead,.row (ak st'.names)]:List bj)[i]? =some o→(∀_:o=.dead,False)→(i=0∧n6 2 [k] i=0)∨(i=2∧n6 2 [k] i=k):=fun i o ho hd=>by
   match i,ho with
   | 0,_=>exact .inl ⟨rfl,rfl⟩
   | 1,ho=>
     simp only[List.getElem?_cons_succ,List.getElem?_cons_zero,Option.some.injEq] at ho;exact absurd ho.symm hd
   | 2,_=>exact .inr ⟨rfl,rfl⟩
   | i+3,ho=>simp at ho
  simp only[List.length_cons,List.length_nil,Nat.zero_add] at e;rcases pick i o hi hdi with⟨a1,a2⟩ | ⟨a1,a2⟩<;>rcases pick j o' hj hdj with⟨b1,b2⟩ | ⟨b1,b2⟩<;>rw[a2,b2] at e<;>omega
end
end Go.Proofs.YtjmeonoabiliiaaGreatDoor

namespace Go.Proofs.YtjmeonoabiliiaaGreatDoor
open Go Sz
theorem mJ {y:AV} {L:List Tok} (hy:br y=some L):∀(fr:List AV) (h:aa) (o:cY),o.ev fr=y→bF fr h (.u0 o)=some (.int .i64 L.length,h):=fun fr h o ho=>by
 rw[dP,ho];rcases ow hy with⟨rfl,rfl⟩ | rfl
 ·rfl
 ·simp
def bm (L:List Tok) (st:St):Tok:=L.getD st.at_ rW
theorem bu {T:List bO} {L:List Tok} {st:St} (h:RC T L st):aQ st=⟨(bm L st).kind,(bm L st).text,(bm L st).num,(bm L st).ig,MN (bm L st) (L.drop (st.at_+1))⟩:=by
 unfold aQ bm;rw[h.rest,x9];by_cases hl:st.at_ < L.length
 ·rw[List.drop_eq_getElem_cons hl];simp[iO,List.getD,hl]
 ·rw[List.drop_of_length_le (by omega),List.drop_of_length_le (by omega)];simp[iO,List.getD,show L.length≤st.at_ by omega,IQ,rW,MN]
theorem K5 {T:List bO} {L:List Tok} {st:St} (h:RC T L st):(st.at_ < L.length∧L[st.at_]? =some (bm L st))∨(L.length≤st.at_∧bm L st=rW):=by
 unfold bm;by_cases hl:st.at_ < L.length
 ·exact .inl ⟨hl,by simp[List.getD,hl]⟩
 ·exact .inr ⟨by omega,by simp[List.getD,show L.length≤st.at_ by omega]⟩
theorem eP {T:List bO} {L:List Tok} {st:St} (h:RC T L st) (hk:(aQ st).kind≠0):st.at_ < L.length:=by
 rw[bu h] at hk;rcases K5 h with⟨h1,_⟩ | ⟨_,h2⟩
 ·exact h1
 ·rw[h2] at hk;exact absurd rfl hk
theorem Pu {T:List bO} {L:List Tok} {st:St} (h:RC T L st) (hl:st.at_≤L.length):st.at_+st.rest.length=L.length:=by
 rw[h.rest,List.length_drop,eG];omega
theorem RC.xJ {T:List bO} {L:List Tok} {st:St} (h:RC T L st) (hl:st.at_≤L.length):RC T L (aC st):=by
 refine⟨?_,?_,?_,h.nm,h.lb,h.tb,h.tk,h.rg,h.Hm,h.rj⟩
 ·show st.rest.tail=(iO L).drop (st.at_+1);rw[h.rest,List.tail_drop]
 ·show st.at_+1≤_;omega
 ·show st.next≤st.at_+1
  have:=h.nx;omega
theorem RC.ok {T:List bO} {L:List Tok} {st st':St} (h:RC T L st) (g:Ok st st'):RC T L st'∧st'.at_≤L.length:=by
 have hl:st.at_≤L.length:=by
  have hp:=g.pos;rw[h.rest,List.length_drop,eG] at hp;omega
 have t1:=Pu h hl;have t2:=g.RR;obtain⟨k,hk⟩:=g.lv.QV;have hlen:st'.rest.length=st.rest.length - k:=by rw[hk,List.length_drop]
 have hpos:=g.pos;have:=g.Tj;have:=g.lv.nm;have:=g.lv.nx;have h1:=h.nx;have h2:=h.nm;have hkk:k≤st.rest.length∨st.rest.length < k:=by omega
 refine⟨⟨?_,by omega,by omega,by omega,h.lb,h.tb,h.tk,g.lv.rg h.rg,g.lv.Hm h.Hm,h.rj⟩,by omega⟩;rw[hk,h.rest,List.drop_drop];rcases hkk with hkk | hkk
 ·congr 1;omega
 ·have e1:(iO L).length=L.length:=eG L;rw[List.drop_of_length_le (by rw[e1];omega),List.drop_of_length_le (by rw[e1];omega)]
section
variable {X:World→Prop} {P:Program} {E:Env} (hE:b8 P X E) {n f:Nat} {rest:List AV} {x y v:AV} {st st':St} (hx:Laid x) (hy:Laid y)
include hE hx hy
theorem uj (h1:st.names=[]→(az E n f (.ptr 0 0::rest) ⟨1,[.row [x,y,.int .i64 st.at_,.int .i64 st.next,.aA]],1,1⟩).map (fun p=>(p.1,p.2.get 0))=some (v,some (.row [x,y,.int .i64 st.at_,.int .i64 st.next,.aA])))
 (h2:st.names≠[]→(az E n f (.ptr 0 0::rest) ⟨2,[.row (ak st.names),.row [x,y,.int .i64 st.at_,.int .i64 st.next,.vec 1 0 st.names.length 2 st.names.length]],2,2⟩).map (fun p=>(p.1,p.2.get 0,p.2.get 1))=
  some (v,some (.row [x,y,.int .i64 st.at_,.int .i64 st.next,.vec 1 0 st.names.length 2 st.names.length]),some (.row (ak st.names))))
 (hv:v.refs=0) (hr:AV.aq rest=0):b9 P X f (.ptr 0 0::rest) (dj x y st) v none:=by
 by_cases h0:st.names=[]
 ·have e1:dj x y st=[.row [x,y,.int .i64 st.at_,.int .i64 st.next,.aA]]:=by unfold dj;rw[h0];rfl
  rw[e1];obtain⟨⟨v1,h⟩,g1,g2⟩:=Option.map_eq_some_iff.1 (h1 h0);simp only[Prod.mk.injEq] at g2;obtain⟨rfl,g3⟩:=g2;exact y5 hE g1 g3 hv hr (by simp[AV.aq,hx.refs,hy.refs,AV.refs])
 ·have e1:dj x y st=[.row [x,y,.int .i64 st.at_,.int .i64 st.next,.vec 1 0 st.names.length 2 st.names.length],.row (ak st.names)]:=by
   unfold dj kA s8
   cases hn:st.names with
   | nil=>exact absurd hn h0
   | cons p r=>rfl
  rw[e1];obtain⟨⟨v1,h⟩,g1,g2⟩:=Option.map_eq_some_iff.1 (h2 h0);simp only[Prod.mk.injEq] at g2;obtain⟨rfl,g3,g4⟩:=g2;refine EV hE g1 (fun i hi=>?_) hv hr (by simp) (fun o ho=>?_)
  ·match i,hi with
   | 0,_=>exact g3
   | 1,_=>exact g4
   | i+2,hi=>simp only[List.length_cons,List.length_nil] at hi;omega
  ·simp only[List.mem_cons,List.not_mem_nil,or_false] at ho;rcases ho with rfl | rfl
   ·exact s0 hx hy _ _ (by rfl)
   ·exact kM _ (ah _)
theorem Hk (hnm:st'.names=st.names) (h1:st.names=[]→(az E n f (.ptr 0 0::rest) ⟨1,[.row [x,y,.int .i64 st.at_,.int .i64 st.next,.aA]],1,1⟩).map (fun p=>(p.1,p.2.get 0))=some (v,some (.row [x,y,.int .i64 st'.at_,.int .i64 st'.next,.aA])))
 (h2:st.names≠[]→(az E n f (.ptr 0 0::rest) ⟨2,[.row (ak st.names),.row [x,y,.int .i64 st.at_,.int .i64 st.next,.vec 1 0 st.names.length 2 st.names.length]],2,2⟩).map (fun p=>(p.1,p.2.get 0,p.2.get 1))=
  some (v,some (.row [x,y,.int .i64 st'.at_,.int .i64 st'.next,.vec 1 0 st.names.length 2 st.names.length]),some (.row (ak st.names))))
 (hv:v.refs=0) (hr:AV.aq rest=0):b9 P X f (.ptr 0 0::rest) (dj x y st) v (some (dj x y st')):=by
 by_cases h0:st.names=[]
 ·have e1:dj x y st=[.row [x,y,.int .i64 st.at_,.int .i64 st.next,.aA]]:=by unfold dj;rw[h0];rfl
  have e2:dj x y st'=[.row [x,y,.int .i64 st'.at_,.int .i64 st'.next,.aA]]:=by unfold dj;rw[hnm,h0];rfl
  rw[e1,e2];exact pK hE (h1 h0) hv hr (by simp[AV.aq,hx.refs,hy.refs,AV.refs])
 ·have e1:∀s:St,s.names=st.names→dj x y s=[.row [x,y,.int .i64 s.at_,.int .i64 s.next,.vec 1 0 st.names.length 2 st.names.length],.row (ak st.names)]:=fun s hs=>by
   unfold dj kA s8;rw[hs]
   cases hn:st.names with
   | nil=>exact absurd hn h0
   | cons p r=>rfl
  rw[e1 st rfl,e1 st' hnm];obtain⟨⟨v1,h⟩,g1,g2⟩:=Option.map_eq_some_iff.1 (h2 h0);simp only[Prod.mk.injEq] at g2;obtain⟨rfl,g3,g4⟩:=g2;refine vq (qs:=[]) hE g1 hv hr (by simp) (by simp) (vn (by simp) (by simp) (by simp) fun i o ho _=>?_)
  match i,ho with
  | 0,ho=>
    simp only[List.getElem?_cons_zero,Option.some.injEq] at ho;subst ho;rw[o9 hx hy];exact⟨g3,s0 hx hy _ _ (by rfl)⟩
  | 1,ho=>
    simp only[List.getElem?_cons_succ,List.getElem?_cons_zero,Option.some.injEq] at ho;subst ho;rw[mD _ (ah _)];exact⟨g4,kM _ (ah _)⟩
  | i+2,ho=>simp at ho
end
noncomputable def pY:bM:=⟨72,fun
 | [.ptr 0 0],os=>(match qJ os with | some R=>some ((bm R.L R.st).enc,none) | none=>none)
 | _,_=>none⟩
theorem aY:pY.f=72:=(rfl)
theorem dp {x y:AV} {T:List bO} {L:List Tok} {st:St} (hx:bx x=some T) (hy:br y=some L) (h:RC T L st):pY.S [.ptr 0 0] (dj x y st)=some ((bm L st).enc,none):=by
 simp only[pY,iG hx hy h]
theorem FA (v:AV) (hv:v=.aA∨∃k l,v=.vec k 0 l 2 l) (x y:AV) (T:List bO) (L:List Tok) (st:St) (hx:bx x=some T) (hy:br y=some L) (h:RC T L st):
 (az (bh [] []) 4 72 [.ptr 0 0] ⟨1,[.row [x,y,.int .i64 st.at_,.int .i64 st.next,v]],1,1⟩=some ((bm L st).enc,⟨1,[.row [x,y,.int .i64 st.at_,.int .i64 st.next,v]],1,1⟩))∧
 ∀F,(az (bh [] []) 4 72 [.ptr 0 0] ⟨2,[.row F,.row [x,y,.int .i64 st.at_,.int .i64 st.next,v]],2,2⟩=some ((bm L st).enc,⟨2,[.row F,.row [x,y,.int .i64 st.at_,.int .i64 st.next,v]],2,2⟩)):=by
 have hly:=mJ hy;have hlb:=h.lb;have hte:(bm L st).enc=.agg [.int .i64 (bm L st).kind,.str (bm L st).text,.int .i64 (bm L st).num,.bool (bm L st).ig,.int .i64 (bm L st).at_]:=rfl;rcases K5 h with⟨h1,h2⟩ | ⟨h1,h2⟩
 ·have h3:((L.length:Int)≤(st.at_:Int))=False:=eq_false (by omega)
  have hyl:y=.sl (L.map Tok.enc):=by
   rcases ow hy with⟨rfl,rfl⟩ | rfl
   ·simp at h1
   ·rfl
  subst hyl;have hc:(L.map Tok.enc)[st.at_]? =some (.agg [.int .i64 (bm L st).kind,.str (bm L st).text,.int .i64 (bm L st).num,.bool (bm L st).ig,.int .i64 (bm L st).at_]):=by rw[List.getElem?_map,h2];rfl
  have hUl:(L.map Tok.enc).length=L.length:=List.length_map _;have b0:(0:Int)≤(st.at_:Int):=by omega
  rw[hte];generalize bm L st=t at *;have h1':(L.length≤st.at_)=False:=eq_false (by omega);generalize L.map Tok.enc=U at *;refine⟨?_,fun F=>?_⟩
  ·simp[zV,c72,hUl,h3,h1',hc,b0]
  ·simp[zV,c72,hUl,h3,h1',hc,b0]
 ·have h3:((L.length:Int)≤(st.at_:Int))=True:=eq_true (by omega);rw[hte,h2];refine⟨?_,fun F=>?_⟩
  ·simp[zV,c72,hly,h3,rW,h1]
  ·simp[zV,c72,hly,h3,rW,h1]
theorem rZ:dy Tryz.prog cq pY:=fun args os v r hv=>by
 unfold pY at hv;dsimp only at hv;split at hv
 ·rename_i os;split at hv
  ·rename_i R hR;cases hv;obtain⟨hx,hy,rfl,hc⟩:=gN hR;rw[aY];have hE:b8 Tryz.prog cq (bh [] []):=eV (by simp) (by simp);refine uj (n:=4) hE (bD hx) (bo hy) (fun _=>?_) (fun _=>?_) (by simp[Tok.enc,Tok.cells,AV.refs,AV.aq]) rfl
   ·rw[(FA .aA (.inl rfl) _ _ _ _ _ hx hy hc).1];rfl
   ·rw[(FA (.vec 1 0 _ 2 _) (.inr ⟨1,_,rfl⟩) _ _ _ _ _ hx hy hc).2];rfl
  ·cases hv
 ·cases hv
def mP:aS:=⟨162,fun | [v]=>(rP v).map fun t=>.bool (decide (t.kind=1)||decide (t.kind=2)) | _=>none⟩
theorem bz:mP.f=162:=(rfl)
theorem eH (t:Tok):mP.S [.agg [.int .i64 t.kind,.str t.text,.int .i64 t.num,.bool t.ig,.int .i64 t.at_]]=some (.bool (decide (t.kind=1)||decide (t.kind=2))):=(rfl)
theorem wD:bC Tryz.prog mP:=fun args v hv=>by
 unfold mP at hv ⊢;dsimp only at hv ⊢;split at hv
 ·obtain⟨t,ht,rfl⟩:=Option.map_eq_some_iff.1 hv;rw[rK ht];refine cB (n:=4) (h':=h0) (cf (ss:=[]) (by simp)) ?_ rfl (by simp[Tok.enc,Tok.cells,AV.refs,AV.aq]);have hte:t.enc=.agg [.int .i64 t.kind,.str t.text,.int .i64 t.num,.bool t.ig,.int .i64 t.at_]:=rfl;rw[hte];by_cases h1:t.kind=1
  ·simp[Eo,c162,h1]
  ·by_cases h2:t.kind=2
   ·simp[Eo,c162,h2]
   ·simp[Eo,c162,h1,h2]
 ·cases hv
def dJ (T:List bO) (t:Tok):bO×Bool:=db T ⟨t.kind,t.text,t.num,t.ig,false⟩
theorem mB {T:List bO} {L:List Tok} {st:St} (h:RC T L st):db T (aQ st)=dJ T (bm L st):=by
 rw[bu h];rfl
noncomputable def zh:bM:=⟨121,fun
 | [.ptr 0 0,w],os=>(match qJ os,rP w with | some R,some t=>some (.tuple [(dJ R.T t).1.enc,.bool (dJ R.T t).2],none) | _,_=>none)
 | _,_=>none⟩
theorem cM:zh.f=121:=(rfl)
theorem mT {x y:AV} {T:List bO} {L:List Tok} {st:St} (hx:bx x=some T) (hy:br y=some L) (h:RC T L st) (t:Tok):
 zh.S [.ptr 0 0,.agg [.int .i64 t.kind,.str t.text,.int .i64 t.num,.bool t.ig,.int .i64 t.at_]] (dj x y st)=some (.tuple [(dJ T t).1.enc,.bool (dJ T t).2],none):=by
 have e:rP (.agg [.int .i64 t.kind,.str t.text,.int .i64 t.num,.bool t.ig,.int .i64 t.at_])=some t:=rfl;simp only[zh,iG hx hy h,e]
theorem BP (x:AV) (T:List bO) (hx:bx x=some T) (hT:T.length < 1000000) (t:Tok) (y a b v:AV):
 (az (bh [mP,Fo] []) 6 121 [.ptr 0 0,t.enc] ⟨1,[.row [x,y,a,b,v]],1,1⟩=some (.tuple [(dJ T t).1.enc,.bool (dJ T t).2],⟨1,[.row [x,y,a,b,v]],1,1⟩))∧
 ∀F,(az (bh [mP,Fo] []) 6 121 [.ptr 0 0,t.enc] ⟨2,[.row F,.row [x,y,a,b,v]],2,2⟩=some (.tuple [(dJ T t).1.enc,.bool (dJ T t).2],⟨2,[.row F,.row [x,y,a,b,v]],2,2⟩)):=by
 have hl:=bD hx;have hte:t.enc=.agg [.int .i64 t.kind,.str t.text,.int .i64 t.num,.bool t.ig,.int .i64 t.at_]:=rfl;have q1:=eH t;have q2:=Ae hx t.text (by omega);have hfx:=fun h=>hl.fr h 0 6
 have hxr:=hl.refs;rw[hte];unfold dJ db eN;simp only[bO.enc,bO.cells] at q2 ⊢
 have fin:∀s:List UInt8,t.text=s→∀e:Bool,(s==[44])=e→∀F:List AV,
  (az (bh [mP,Fo] []) 6 121 [.ptr 0 0,.agg [.int .i64 t.kind,.str s,.int .i64 t.num,.bool t.ig,.int .i64 t.at_]] ⟨1,[.row [x,y,a,b,v]],1,1⟩=some (.tuple [.agg [.str (if !(decide (t.kind=1)||decide (t.kind=2))&&(!decide (t.kind=5)||!decide (s=[44])) then (gG,false) else cd T s false).1.n,.str (if !(decide (t.kind=1)||decide (t.kind=2))&&(!decide (t.kind=5)||!decide (s=[44])) then (gG,false) else cd T s false).1.k,.int .i64 (if !(decide (t.kind=1)||decide (t.kind=2))&&(!decide (t.kind=5)||!decide (s=[44])) then (gG,false) else cd T s false).1.l],.bool (if !(decide (t.kind=1)||decide (t.kind=2))&&(!decide (t.kind=5)||!decide (s=[44])) then (gG,false) else cd T s false).2],⟨1,[.row [x,y,a,b,v]],1,1⟩))∧
  (az (bh [mP,Fo] []) 6 121 [.ptr 0 0,.agg [.int .i64 t.kind,.str s,.int .i64 t.num,.bool t.ig,.int .i64 t.at_]] ⟨2,[.row F,.row [x,y,a,b,v]],2,2⟩=some (.tuple [.agg [.str (if !(decide (t.kind=1)||decide (t.kind=2))&&(!decide (t.kind=5)||!decide (s=[44])) then (gG,false) else cd T s false).1.n,.str (if !(decide (t.kind=1)||decide (t.kind=2))&&(!decide (t.kind=5)||!decide (s=[44])) then (gG,false) else cd T s false).1.k,.int .i64 (if !(decide (t.kind=1)||decide (t.kind=2))&&(!decide (t.kind=5)||!decide (s=[44])) then (gG,false) else cd T s false).1.l],.bool (if !(decide (t.kind=1)||decide (t.kind=2))&&(!decide (t.kind=5)||!decide (s=[44])) then (gG,false) else cd T s false).2],⟨2,[.row F,.row [x,y,a,b,v]],2,2⟩)):=fun s hs e he F=>by
  rw[hs] at q1 q2;by_cases k1:t.kind=1
  ·simp[pn,Am,bz,eW,hfx,hxr,k1] at q1 ⊢;simp[pn,Am,bz,eW,hfx,hxr,k1,q1,q2]
  by_cases k2:t.kind=2
  ·simp[k1,k2] at q1 ⊢;simp[pn,Am,bz,eW,hfx,hxr,k1,k2,q1,q2]
  by_cases k5:t.kind=5
  ·rw[k5] at q1 ⊢
   cases e with
   | true=>
     have he':s=[44]:=by simpa using he
     subst he';simp at q1 ⊢;simp[pn,Am,bz,eW,hfx,hxr,q1,q2]
   | false=>
     have he':¬ s=[44]:=by simpa using he
     simp[he'] at q1 ⊢;simp[pn,Am,bz,eW,hfx,hxr,q1,q2,he,he',gG]
  ·simp[k1,k2,k5] at q1 ⊢;simp[pn,Am,bz,eW,hfx,hxr,k1,k2,k5,q1,q2,gG]
 exact⟨(fin t.text rfl _ rfl []).1,fun F=>(fin t.text rfl _ rfl F).2⟩
theorem Lq:dy Tryz.prog cq zh:=fun args os v r hv=>by
 unfold zh at hv;dsimp only at hv;split at hv
 ·rename_i w os;split at hv
  ·rename_i R t hR ht;cases hv;obtain⟨hx,hy,rfl,hc⟩:=gN hR;rw[cM,rK ht];have hE:b8 Tryz.prog cq (bh [mP,Fo] []):=eV (by simp[wD.lift,De.lift]) (by simp);refine uj (n:=6) hE (bD hx) (bo hy) (fun _=>?_) (fun _=>?_) (by simp[bO.enc,bO.cells,AV.refs,AV.aq]) (by simp[Tok.enc,Tok.cells,AV.refs,AV.aq])
   ·rw[(BP _ _ hx hc.tb t _ _ _ _).1];rfl
   ·rw[(BP _ _ hx hc.tb t _ _ _ _).2];rfl
  ·cases hv
 ·cases hv
end Go.Proofs.YtjmeonoabiliiaaGreatDoor
