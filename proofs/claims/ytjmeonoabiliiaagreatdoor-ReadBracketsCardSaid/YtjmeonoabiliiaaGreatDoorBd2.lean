import Derived.Test.YtjmeonoabiliiaaGreatDoorAt
import Derived.Test.YtjmeonoabiliiaaGreatDoorBd1
import Derived.Test.YtjmeonoabiliiaaGreatDoorArg
set_option linter.unusedVariables false
set_option linter.unusedSimpArgs false
set_option linter.unusedSectionVars false
set_option maxHeartbeats 16000000
set_option maxRecDepth 100000

namespace Go.Proofs.YtjmeonoabiliiaaGreatDoor
open Go Sz
def gu (l:List UInt8):List AV:=l.map fun c=>.int .u8 c.toNat
theorem Eb (l:List UInt8):(gu l).length=l.length:=by simp[gu]
theorem jW (l:List UInt8) (c:UInt8):gu (l++[c])=gu l++[.int .u8 c.toNat]:=by simp[gu]
theorem oH:∀l:List UInt8,AV.ai (gu l)=0
 | []=>rfl
 | c::r=>by
   have:=oH r;unfold gu at this ⊢;simp[AV.ai,AV.refs,this]
theorem x8:∀l:List UInt8,bytesOf (gu l)=some l
 | []=>rfl
 | c::r=>by
   have:=x8 r;unfold gu at this ⊢;simp[bytesOf,this]
theorem FI (d:UInt8):(∀b,ug d=some b→∃i:Nat,kg d.toNat [110,116,92,39]=(i:Int)∧([10,9,92,39]:List UInt8)[i]? =some b)∧(ug d=none→kg d.toNat [110,116,92,39]=-1):=by
 have nb:∀a:Nat,a≠d.toNat→Nat.beq a d.toNat=false:=fun a h=>by
  cases hb:Nat.beq a d.toNat with
  | false=>rfl
  | true=>exact absurd (Nat.eq_of_beq_eq_true hb) h
 have yb:∀a:Nat,a=d.toNat→Nat.beq a d.toNat=true:=fun a h=>by rw[h];exact Nat.beq_refl _
 have t1:(110:UInt8).toNat=110:=rfl;have t2:(116:UInt8).toNat=116:=rfl;have t3:(92:UInt8).toNat=92:=rfl;have t4:(39:UInt8).toNat=39:=rfl;unfold ug;by_cases h1:d.toNat=110
 ·rw[if_pos h1];refine⟨fun b e=>⟨0,?_,by cases e;rfl⟩,fun e=>by cases e⟩;simp[kg,t1,yb 110 h1.symm]
 rw[if_neg h1];by_cases h2:d.toNat=116
 ·rw[if_pos h2];refine⟨fun b e=>⟨1,?_,by cases e;rfl⟩,fun e=>by cases e⟩;simp[kg,t1,t2,nb 110 (Ne.symm h1),yb 116 h2.symm]
 rw[if_neg h2];by_cases h3:d.toNat=92
 ·rw[if_pos h3];refine⟨fun b e=>⟨2,?_,by cases e;rfl⟩,fun e=>by cases e⟩;simp[kg,t1,t2,t3,nb 110 (Ne.symm h1),nb 116 (Ne.symm h2),yb 92 h3.symm]
 rw[if_neg h3];by_cases h4:d.toNat=39
 ·rw[if_pos h4];refine⟨fun b e=>⟨3,?_,by cases e;rfl⟩,fun e=>by cases e⟩;simp[kg,t1,t2,t3,t4,nb 110 (Ne.symm h1),nb 116 (Ne.symm h2),nb 92 (Ne.symm h3),yb 39 h4.symm]
 rw[if_neg h4];refine⟨fun b e=>(by cases e),fun _=>?_⟩;simp[kg,t1,t2,t3,t4,nb 110 (Ne.symm h1),nb 116 (Ne.symm h2),nb 92 (Ne.symm h3),nb 39 (Ne.symm h4)];rfl
theorem A4:kg 0 [110,116,92,39]=-1:=by decide
def fm (k:Int) (t:List UInt8) (n:Int):List AV:=[.int .i64 k,.str t,.int .i64 n,.bool false,.int .i64 0]
def Q9 (q:Option (List UInt8)×Nat) (q0:Nat) (s:List UInt8) (R:Option (Ex×List AV×aa)):Prop:=
 ∃md',(∃t,q.1=some t∧R=some (.ret,FM 119 [(2,.ptr 1 0),(3,.int .i64 0)],⟨2,[.row (fm 2 t 0),.row [.str s,.int .i64 (q0+q.2:Nat)]],1,md'⟩))∨
   (q.1=none∧R=some (.ret,FM 119 [(2,.ptr 1 0),(3,.int .i64 2)],⟨2,[.row (fm 0 [] 0),.row [.str s,.int .i64 (q0+q.2:Nat)]],1,md'⟩))∨
   (q.1=none∧R=some (.exit 0,FM 119 [(2,.ptr 1 0)],⟨2,[.row (fm 0 [] 0),.row [.str s,.int .i64 (q0+q.2:Nat)]],1,md'⟩))
theorem j9 (n:Nat) (s:List UInt8) (hl:s.length < 1000000000) (q0:Nat):∀(f:Nat) (acc:List UInt8) (j m md:Nat),acc≠[]→acc.length≤j→q0+j≤s.length→s.length - (q0+j) < f→f≤m→
 Q9 (eP f (s.drop (q0+j)) acc j) q0 s (ju 2 1 (cM (aT (au (bj js []) (n+1)) (n+1) dT) dG 2 m (Iv (.ptr 0 0) (.ptr 1 0) (.vec 2 0 acc.length 1 acc.length)) ⟨3,[.row (gu acc),.row (fm 0 [] 0),.row [.str s,.int .i64 (q0+j:Nat)]],2,md⟩))
 | 0,acc,j,m,md,hne,haj,hk,h,_=>by omega
 | f+1,acc,j,0,md,hne,haj,_,_,h=>by omega
 | f+1,acc,j,m+1,md,hne,haj,hk,hf0,hm=>by
   rw[aC];have hf:=oH acc;have hb:=x8 acc;have hlen:=Eb acc;have h8:acc.length+1≤140737488355328:=by omega
   have h9:acc.length+1 < 9223372036854775808:=by omega
   have h10:(gu acc).take acc.length=gu acc:=by rw[List.take_of_length_le];omega
   have hf2:∀b:UInt8,AV.ai (gu acc++[.int .u8 b.toNat])=0:=fun b=>by rw[←jW];exact oH _
   have hf39:AV.ai (gu acc++[.int .u8 39])=0:=hf2 39;by_cases he:q0+j=s.length
   ·have hd:s.drop (q0+j)=[]:=by rw[he];exact List.drop_length
    have h6:((q0:Int)+(j:Int) < (s.length:Int))=False:=eq_false (by omega);rw[hd,si];refine⟨md,.inr (.inr ⟨rfl,?_⟩)⟩;simp[js,dT,dG,h6,hf]
   ·obtain⟨c,h1,hd⟩:=jG (s:=s) (k:=q0+j) (by omega);have h6:((q0:Int)+(j:Int) < (s.length:Int))=True:=eq_true (by omega);have h3:IntKind.i64.wrap ((q0:Int)+(j:Int)+1)=(q0:Int)+(j:Int)+1:=wrap_i64 (by omega) (by omega);have h3b:IntKind.i64.wrap ((q0:Int)+(j:Int)+1+1)=(q0:Int)+(j:Int)+1+1:=wrap_i64 (by omega) (by omega);have n0:(0≤(q0:Int)+(j:Int))=True:=eq_true (by omega);have n1:(0≤(q0:Int)+(j:Int)+1)=True:=eq_true (by omega);have n2:((q0:Int)+(j:Int)).toNat=q0+j:=by omega
    have n3:((q0:Int)+(j:Int)+1).toNat=q0+j+1:=by omega
    rw[hd]
    have hnext:(s.drop (q0+j+1)=[]∧((q0:Int)+(j:Int)+1 < (s.length:Int))=False)∨∃d,s[q0+j+1]? =some d∧s.drop (q0+j+1)=d::s.drop (q0+j+2)∧((q0:Int)+(j:Int)+1 < (s.length:Int))=True:=by
     by_cases hx:q0+j+1 < s.length
     ·obtain⟨d,a1,a2⟩:=jG (s:=s) (k:=q0+j+1) hx;exact .inr ⟨d,a1,a2,eq_true (by omega)⟩
     ·exact .inl ⟨List.drop_eq_nil_of_le (by omega),eq_false (by omega)⟩
    by_cases k1:c.toNat=39
    ·have k1':((c.toNat:Int)=39)=True:=eq_true (by omega);rcases hnext with⟨x1,x2⟩ | ⟨d,x0,x1,x2⟩
     ·rw[x1,xm k1];refine⟨0,.inl ⟨acc,rfl,?_⟩⟩;simp[js,dT,dG,fm,h1,h6,h3,h3b,n0,n1,n2,n3,aW,hf,hf2,hf39,hb,hlen,h8,h9,h10,aS,k1',x2];omega
     ·rw[x1];by_cases k2:d.toNat=39
      ·have k2':((d.toNat:Int)=39)=True:=eq_true (by omega);have x3:=(List.getElem?_eq_some_iff.1 x0).1;rw[s9 k1 k2];obtain rfl:c=39:=UInt8.toNat_inj.1 k1;have ih:=j9 n s hl q0 f (acc++[39]) (j+2) m 0 (by simp) (by simp;omega) (by omega) (by omega) (by omega);rw[show q0+(j+2)=q0+j+2 by omega] at ih;simp only[List.length_append,List.length_cons,List.length_nil,Nat.zero_add,Int.natCast_add,Int.natCast_one,js,fm,jW] at ih;simp[js,dT,dG,fm,h1,h6,h3,h3b,n0,n1,n2,n3,aW,hf,hf2,hf39,hb,hlen,h8,h9,h10,aS,k2',x0,x2];exact ih
      ·have k2':((d.toNat:Int)=39)=False:=eq_false (by omega);rw[qQ k1 k2];refine⟨0,.inl ⟨acc,rfl,?_⟩⟩;simp[js,dT,dG,fm,h1,h6,h3,h3b,n0,n1,n2,n3,aW,hf,hf2,hf39,hb,hlen,h8,h9,h10,aS,k1',k2',x0,x2];omega
    have k1':((c.toNat:Int)=39)=False:=eq_false (by omega);by_cases k2:c.toNat < 32∨126 < c.toNat
    ·rw[rU k1 k2];have hx:∃e:Int,(if (q0:Int)+(j:Int)+1 < (s.length:Int) then True else True):=⟨0,by split<;>trivial⟩
     by_cases k3:c.toNat < 32
     ·have k3':((c.toNat:Int) < 32)=True:=eq_true (by omega);rcases hnext with⟨x1,x2⟩ | ⟨d,x0,x1,x2⟩
      ·refine⟨min md 1,.inr (.inl ⟨rfl,?_⟩)⟩;simp[js,dT,dG,fm,h1,h6,h3,h3b,n0,n1,n2,n3,aW,hf,hf2,hf39,hb,hlen,h8,h9,h10,aS,k1',k3',x2]
      ·refine⟨min md 1,.inr (.inl ⟨rfl,?_⟩)⟩;simp[js,dT,dG,fm,h1,h6,h3,h3b,n0,n1,n2,n3,aW,hf,hf2,hf39,hb,hlen,h8,h9,h10,aS,k1',k3',x0,x2]
     ·have k3':((c.toNat:Int) < 32)=False:=eq_false (by omega);have k4':(126 < (c.toNat:Int))=True:=eq_true (by omega);rcases hnext with⟨x1,x2⟩ | ⟨d,x0,x1,x2⟩
      ·refine⟨min md 1,.inr (.inl ⟨rfl,?_⟩)⟩;simp[js,dT,dG,fm,h1,h6,h3,h3b,n0,n1,n2,n3,aW,hf,hf2,hf39,hb,hlen,h8,h9,h10,aS,k1',k3',k4',x2]
      ·refine⟨min md 1,.inr (.inl ⟨rfl,?_⟩)⟩;simp[js,dT,dG,fm,h1,h6,h3,h3b,n0,n1,n2,n3,aW,hf,hf2,hf39,hb,hlen,h8,h9,h10,aS,k1',k3',k4',x0,x2]
    have k3':((c.toNat:Int) < 32)=False:=eq_false (by omega);have k4':(126 < (c.toNat:Int))=False:=eq_false (by omega);by_cases k5:c.toNat=92
    ·have k5':((c.toNat:Int)=92)=True:=eq_true (by omega);rcases hnext with⟨x1,x2⟩ | ⟨d,x0,x1,x2⟩
     ·rw[x1,zM k5];have z:=eQ [110,116,92,39] 0;rw[show (0:UInt8).toNat=0 from rfl,A4] at z;simp only[show ((0:Nat):Int)=0 from rfl] at z;refine⟨min md 1,.inr (.inl ⟨rfl,?_⟩)⟩;simp[js,dT,dG,fm,h1,h6,h3,h3b,n0,n1,n2,n3,aW,hf,hf2,hf39,hb,hlen,h8,h9,h10,aS,k1',k3',k4',k5',x2,z]
     ·rw[x1];have z:=eQ [110,116,92,39] d;obtain⟨z1,z2⟩:=FI d
      cases hesc:ug d with
      | none=>
        rw[ui k5 hesc];rw[z2 hesc] at z;refine⟨min md 1,.inr (.inl ⟨rfl,?_⟩)⟩;simp[js,dT,dG,fm,h1,h6,h3,h3b,n0,n1,n2,n3,aW,hf,hf2,hf39,hb,hlen,h8,h9,h10,aS,k1',k3',k4',k5',x0,x2,z]
      | some b=>
        rw[tF k5 hesc];obtain⟨i,y1,y2⟩:=z1 b hesc;have x3:=(List.getElem?_eq_some_iff.1 x0).1;rw[y1] at z;have y3:((i:Int) < 0)=False:=eq_false (by omega);have y4:(0≤(i:Int))=True:=eq_true (by omega);have ih:=j9 n s hl q0 f (acc++[b]) (j+2) m 0 (by simp) (by simp;omega) (by omega) (by omega) (by omega);rw[show q0+(j+2)=q0+j+2 by omega] at ih;simp only[List.length_append,List.length_cons,List.length_nil,Nat.zero_add,Int.natCast_add,Int.natCast_one,js,fm,jW] at ih;simp[js,dT,dG,fm,h1,h6,h3,h3b,n0,n1,n2,n3,aW,hf,hf2,hf39,hb,hlen,h8,h9,h10,aS,k1',k3',k4',k5',x0,x2,z,y2,y3,y4];exact ih
    ·have k5':((c.toNat:Int)=92)=False:=eq_false (by omega);rw[nV k1 k2 k5];rcases hnext with⟨x1,x2⟩ | ⟨d,x0,x1,x2⟩
     ·have ih:=j9 n s hl q0 f (acc++[c]) (j+1) m 0 (by simp) (by simp;omega) (by omega) (by omega) (by omega);rw[show q0+(j+1)=q0+j+1 by omega] at ih;simp only[List.length_append,List.length_cons,List.length_nil,Nat.zero_add,Int.natCast_add,Int.natCast_one,js,fm,jW] at ih;simp[js,dT,dG,fm,h1,h6,h3,h3b,n0,n1,n2,n3,aW,hf,hf2,hf39,hb,hlen,h8,h9,h10,aS,k1',k3',k4',k5',x2];exact ih
     ·have ih:=j9 n s hl q0 f (acc++[c]) (j+1) m 0 (by simp) (by simp;omega) (by omega) (by omega) (by omega);rw[show q0+(j+1)=q0+j+1 by omega] at ih;simp only[List.length_append,List.length_cons,List.length_nil,Nat.zero_add,Int.natCast_add,Int.natCast_one,js,fm,jW] at ih;simp[js,dT,dG,fm,h1,h6,h3,h3b,n0,n1,n2,n3,aW,hf,hf2,hf39,hb,hlen,h8,h9,h10,aS,k1',k3',k4',k5',x0,x2];exact ih
theorem GP (n:Nat) (s:List UInt8) (hl:s.length < 1000000000) (q0:Nat):∀(f j m md:Nat),q0+j≤s.length→s.length - (q0+j) < f→f≤m→
 Q9 (eP f (s.drop (q0+j)) [] j) q0 s (ju 2 1 (cM (aT (au (bj js []) (n+1)) (n+1) dT) dG 2 m (Iv (.ptr 0 0) (.ptr 1 0) .aw) ⟨2,[.row (fm 0 [] 0),.row [.str s,.int .i64 (q0+j:Nat)]],2,md⟩))
 | 0,j,m,md,hk,h,_=>by omega
 | f+1,j,0,md,_,_,h=>by omega
 | f+1,j,m+1,md,hk,hf0,hm=>by
   rw[aC];have hb0:bytesOf []=some []:=rfl;by_cases he:q0+j=s.length
   ·have hd:s.drop (q0+j)=[]:=by rw[he];exact List.drop_length
    have h6:((q0:Int)+(j:Int) < (s.length:Int))=False:=eq_false (by omega);rw[hd,si];refine⟨md,.inr (.inr ⟨rfl,?_⟩)⟩;simp[js,dT,dG,h6]
   ·obtain⟨c,h1,hd⟩:=jG (s:=s) (k:=q0+j) (by omega);have h6:((q0:Int)+(j:Int) < (s.length:Int))=True:=eq_true (by omega);have h3:IntKind.i64.wrap ((q0:Int)+(j:Int)+1)=(q0:Int)+(j:Int)+1:=wrap_i64 (by omega) (by omega);have h3b:IntKind.i64.wrap ((q0:Int)+(j:Int)+1+1)=(q0:Int)+(j:Int)+1+1:=wrap_i64 (by omega) (by omega);have n0:(0≤(q0:Int)+(j:Int))=True:=eq_true (by omega);have n1:(0≤(q0:Int)+(j:Int)+1)=True:=eq_true (by omega);have n2:((q0:Int)+(j:Int)).toNat=q0+j:=by omega
    have n3:((q0:Int)+(j:Int)+1).toNat=q0+j+1:=by omega
    rw[hd]
    have hnext:(s.drop (q0+j+1)=[]∧((q0:Int)+(j:Int)+1 < (s.length:Int))=False)∨∃d,s[q0+j+1]? =some d∧s.drop (q0+j+1)=d::s.drop (q0+j+2)∧((q0:Int)+(j:Int)+1 < (s.length:Int))=True:=by
     by_cases hx:q0+j+1 < s.length
     ·obtain⟨d,a1,a2⟩:=jG (s:=s) (k:=q0+j+1) hx;exact .inr ⟨d,a1,a2,eq_true (by omega)⟩
     ·exact .inl ⟨List.drop_eq_nil_of_le (by omega),eq_false (by omega)⟩
    by_cases k1:c.toNat=39
    ·have k1':((c.toNat:Int)=39)=True:=eq_true (by omega);rcases hnext with⟨x1,x2⟩ | ⟨d,x0,x1,x2⟩
     ·rw[x1,xm k1];refine⟨0,.inl ⟨[],rfl,?_⟩⟩;simp[js,dT,dG,fm,h1,h6,h3,h3b,n0,n1,n2,n3,aW,hb0,aS,k1',x2];omega
     ·rw[x1];by_cases k2:d.toNat=39
      ·have k2':((d.toNat:Int)=39)=True:=eq_true (by omega);have x3:=(List.getElem?_eq_some_iff.1 x0).1;rw[s9 k1 k2];obtain rfl:c=39:=UInt8.toNat_inj.1 k1;have ih:=j9 n s hl q0 f [39] (j+2) m 0 (by simp) (by simp) (by omega) (by omega) (by omega);rw[show q0+(j+2)=q0+j+2 by omega] at ih;simp only[List.length_cons,List.length_nil,Nat.zero_add,Int.natCast_add,Int.natCast_one,js,fm,gu,List.map_cons,List.map_nil] at ih;simp[js,dT,dG,fm,h1,h6,h3,h3b,n0,n1,n2,n3,aW,hb0,aS,k2',x0,x2];exact ih
      ·have k2':((d.toNat:Int)=39)=False:=eq_false (by omega);rw[qQ k1 k2];refine⟨0,.inl ⟨[],rfl,?_⟩⟩;simp[js,dT,dG,fm,h1,h6,h3,h3b,n0,n1,n2,n3,aW,hb0,aS,k1',k2',x0,x2];omega
    have k1':((c.toNat:Int)=39)=False:=eq_false (by omega);by_cases k2:c.toNat < 32∨126 < c.toNat
    ·rw[rU k1 k2];have hx:∃e:Int,(if (q0:Int)+(j:Int)+1 < (s.length:Int) then True else True):=⟨0,by split<;>trivial⟩
     by_cases k3:c.toNat < 32
     ·have k3':((c.toNat:Int) < 32)=True:=eq_true (by omega);rcases hnext with⟨x1,x2⟩ | ⟨d,x0,x1,x2⟩
      ·refine⟨min md 1,.inr (.inl ⟨rfl,?_⟩)⟩;simp[js,dT,dG,fm,h1,h6,h3,h3b,n0,n1,n2,n3,aW,hb0,aS,k1',k3',x2]
      ·refine⟨min md 1,.inr (.inl ⟨rfl,?_⟩)⟩;simp[js,dT,dG,fm,h1,h6,h3,h3b,n0,n1,n2,n3,aW,hb0,aS,k1',k3',x0,x2]
     ·have k3':((c.toNat:Int) < 32)=False:=eq_false (by omega);have k4':(126 < (c.toNat:Int))=True:=eq_true (by omega);rcases hnext with⟨x1,x2⟩ | ⟨d,x0,x1,x2⟩
      ·refine⟨min md 1,.inr (.inl ⟨rfl,?_⟩)⟩;simp[js,dT,dG,fm,h1,h6,h3,h3b,n0,n1,n2,n3,aW,hb0,aS,k1',k3',k4',x2]
      ·refine⟨min md 1,.inr (.inl ⟨rfl,?_⟩)⟩;simp[js,dT,dG,fm,h1,h6,h3,h3b,n0,n1,n2,n3,aW,hb0,aS,k1',k3',k4',x0,x2]
    have k3':((c.toNat:Int) < 32)=False:=eq_false (by omega);have k4':(126 < (c.toNat:Int))=False:=eq_false (by omega);by_cases k5:c.toNat=92
    ·have k5':((c.toNat:Int)=92)=True:=eq_true (by omega);rcases hnext with⟨x1,x2⟩ | ⟨d,x0,x1,x2⟩
     ·rw[x1,zM k5];have z:=eQ [110,116,92,39] 0;rw[show (0:UInt8).toNat=0 from rfl,A4] at z;simp only[show ((0:Nat):Int)=0 from rfl] at z;refine⟨min md 1,.inr (.inl ⟨rfl,?_⟩)⟩;simp[js,dT,dG,fm,h1,h6,h3,h3b,n0,n1,n2,n3,aW,hb0,aS,k1',k3',k4',k5',x2,z]
     ·rw[x1];have z:=eQ [110,116,92,39] d;obtain⟨z1,z2⟩:=FI d
      cases hesc:ug d with
      | none=>
        rw[ui k5 hesc];rw[z2 hesc] at z;refine⟨min md 1,.inr (.inl ⟨rfl,?_⟩)⟩;simp[js,dT,dG,fm,h1,h6,h3,h3b,n0,n1,n2,n3,aW,hb0,aS,k1',k3',k4',k5',x0,x2,z]
      | some b=>
        rw[tF k5 hesc];obtain⟨i,y1,y2⟩:=z1 b hesc;have x3:=(List.getElem?_eq_some_iff.1 x0).1;rw[y1] at z;have y3:((i:Int) < 0)=False:=eq_false (by omega);have y4:(0≤(i:Int))=True:=eq_true (by omega);have ih:=j9 n s hl q0 f [b] (j+2) m 0 (by simp) (by simp) (by omega) (by omega) (by omega);rw[show q0+(j+2)=q0+j+2 by omega] at ih;simp only[List.length_cons,List.length_nil,Nat.zero_add,Int.natCast_add,Int.natCast_one,js,fm,gu,List.map_cons,List.map_nil] at ih;simp[js,dT,dG,fm,h1,h6,h3,h3b,n0,n1,n2,n3,aW,hb0,aS,k1',k3',k4',k5',x0,x2,z,y2,y3,y4];exact ih
    ·have k5':((c.toNat:Int)=92)=False:=eq_false (by omega);rw[nV k1 k2 k5];rcases hnext with⟨x1,x2⟩ | ⟨d,x0,x1,x2⟩
     ·have ih:=j9 n s hl q0 f [c] (j+1) m 0 (by simp) (by simp) (by omega) (by omega) (by omega);rw[show q0+(j+1)=q0+j+1 by omega] at ih;simp only[List.length_cons,List.length_nil,Nat.zero_add,Int.natCast_add,Int.natCast_one,js,fm,gu,List.map_cons,List.map_nil] at ih;simp[js,dT,dG,fm,h1,h6,h3,h3b,n0,n1,n2,n3,aW,hb0,aS,k1',k3',k4',k5',x2];exact ih
     ·have ih:=j9 n s hl q0 f [c] (j+1) m 0 (by simp) (by simp) (by omega) (by omega) (by omega);rw[show q0+(j+1)=q0+j+1 by omega] at ih;simp only[List.length_cons,List.length_nil,Nat.zero_add,Int.natCast_add,Int.natCast_one,js,fm,gu,List.map_cons,List.map_nil] at ih;simp[js,dT,dG,fm,h1,h6,h3,h3b,n0,n1,n2,n3,aW,hb0,aS,k1',k3',k4',k5',x0,x2];exact ih
theorem o8 {X:World→Prop} {P:Program} {E:Env} (hE:bW P X E) {n f:Nat} {rest cs cs':List AV} {v:AV} (he:(au E n f (.ptr 0 0::rest) (tI [.row cs])).map (fun p=>(p.1,p.2.get 0))=some (v,some (.row cs')))
 (hv:v.refs=0) (hr:AV.ai rest=0) (hc:AV.ai cs'=0):bX P X f (.ptr 0 0::rest) [.row cs] v (some [.row cs']):=by
 obtain⟨⟨v1,h1⟩,e1,e2⟩:=Option.map_eq_some_iff.1 he;simp only[Prod.mk.injEq] at e2;obtain⟨rfl,e3⟩:=e2;exact rR hE e1 e3 hv hr hc
def A5 (q:Option (List UInt8)×Nat):AV:=match q.1 with | some t=>.tuple [.agg (fm 2 t 0),.int .i64 0] | none=>.tuple [.agg (fm 0 [] 0),.int .i64 2]
def Hf:bL:=⟨80,fun
 | [.ptr 0 0],[.row [.str s,.int .i64 i]]=>if s.length < 1000000000∧0≤i∧i < s.length then
  some (A5 (eP ((s.drop (i.toNat+1)).length+1) (s.drop (i.toNat+1)) [] 1),some [.row [.str s,.int .i64 (i.toNat+(eP ((s.drop (i.toNat+1)).length+1) (s.drop (i.toNat+1)) [] 1).2:Nat)]]) else none
 | _,_=>none⟩
theorem iV:Hf.f=80:=(rfl)
theorem Lm (s:List UInt8) (k:Nat) (hl:s.length < 1000000000) (hk:k < s.length):
 Hf.S [.ptr 0 0] [.row [.str s,.int .i64 k]]=some (A5 (eP ((s.drop (k+1)).length+1) (s.drop (k+1)) [] 1),some [.row [.str s,.int .i64 (k+(eP ((s.drop (k+1)).length+1) (s.drop (k+1)) [] 1).2:Nat)]]):=by
 simp only[Hf];rw[if_pos ⟨hl,by omega,by omega⟩,Int.toNat_natCast]
theorem Ln:jT Tryz.prog Hf:=fun args os v r hv=>by
 unfold Hf at hv;dsimp only at hv;split at hv
 ·rename_i s i;split at hv
  ·rename_i hc;cases hv;obtain⟨k,rfl⟩:∃k:Nat,i=(k:Int):=⟨i.toNat,by omega⟩
   rw[Int.toNat_natCast,iV];have h3:IntKind.i64.wrap ((k:Int)+1)=(k:Int)+1:=wrap_i64 (by omega) (by omega);have lp:=GP (s.length+4) s hc.1 k ((s.drop (k+1)).length+1) 1 (s.length+5) 0 (by omega) (by rw[List.length_drop];omega) (by rw[List.length_drop];omega);generalize eP ((s.drop (k+1)).length+1) (s.drop (k+1)) [] 1=q at *;refine o8 (n:=s.length+6) (sC (ss:=js) (ms:=[]) D4 (by simp)) ?_ (by unfold A5;split<;>rfl) rfl rfl;rw[oV];obtain⟨md',lp⟩:=lp;simp only[dG,js,fm,Int.natCast_add,Int.natCast_one] at lp;rcases lp with⟨t,e1,lp⟩ | ⟨e1,lp⟩ | ⟨e1,lp⟩
   ·unfold A5;rw[e1];simp[js,Db,c80,dG,fm,h3,lp,aW]
   ·unfold A5;rw[e1];simp[js,Db,c80,dG,fm,h3,lp,aW]
   ·unfold A5;rw[e1];simp[js,Db,c80,dG,fm,h3,lp,aW]
  ·cases hv
 ·cases hv
def DN:List Tm→AV
 | []=>.aw
 | x::r=>.sl ((x::r).map Tm.enc)
theorem qp (us:List Tm) (x:Tm):aZ (us++[x])=aZ us++x.cells:=by simp[aZ]
def hT (us:List Tm) (B:List bf):List bf:=match us with
 | []=>B
 | x::r=>.row (aZ (x::r))::B
theorem ND {h:aa} {n0 d id:Nat} (x:Tm) (r:List Tm) (hid:n0≤id) (hg:h.get id=some (.row (aZ (x::r)))):
 hO h n0 (d+2) (.vec id 0 (r.length+1) 4 (r.length+1))=some (.sl ((x::r).map Tm.enc),[id]):=
 vl hid hg (by omega) (l5 (x::r)) (by simp) (by rw[dD];simp) (by rw[n6,List.take_of_length_le];rw[dD];simp)
theorem Kn (us:List Tm):(DN us).refs=0:=by cases us<;>simp[DN,AV.refs]
def pC:aR:=⟨79,fun | [.str s]=>if s.length < 281474976710656 then some (.tuple [.int .i64 (kq s).1,.int .i64 (kq s).2]) else none | _=>none⟩
theorem eT:pC.f=79:=(rfl)
theorem Dl (s:List UInt8) (h:s.length < 281474976710656):pC.S [.str s]=some (.tuple [.int .i64 (kq s).1,.int .i64 (kq s).2]):=if_pos h
theorem B5 (s:List UInt8) (hd:Lib.trimPrefix s [45]≠[]) (ha:eN (Lib.trimPrefix s [45])=true):(∃v,Lib.parseIntB 64 s=.ok v)∨Lib.parseIntB 64 s=.range:=by
 have pu:∀(M:Nat) (l:List UInt8) (acc:Nat),eN l=true→(∃u,Lib.parseUintM M acc l=.ok u)∨Lib.parseUintM M acc l=.range:=by
  intro M l
  induction l with
  | nil=>intro acc _;exact .inl ⟨acc,rfl⟩
  | cons c r ih=>
    intro acc h;simp only[eN,dB,Bool.and_eq_true,decide_eq_true_eq] at h;unfold Lib.parseUintM;rw[if_pos h.1];split
    ·exact .inr rfl
    ·split
     ·exact .inr rfl
     ·exact ih _ h.2
 cases s with
 | nil=>exact absurd Kr hd
 | cons c r=>
   by_cases hc:c=45
   ·subst hc;rw[C4] at hd ha;unfold Lib.parseIntB Lib.parseUintB;simp only[show (45:UInt8).toNat=45 from rfl,or_true,if_true,hd,if_false];rcases pu (2 ^ 64 - 1) r 0 ha with⟨u,e⟩ | e
    ·rw[e];simp only[not_true,false_and,if_false,true_and];split
     ·exact .inr rfl
     ·exact .inl ⟨_,rfl⟩
    ·rw[e];exact .inr rfl
   ·rw[wD c r hc] at ha;have h:=RQ hc
    have hg:48≤c.toNat∧c.toNat≤57:=by
     simp only[eN,dB,Bool.and_eq_true,decide_eq_true_eq] at ha;exact ha.1
    unfold Lib.parseIntB Lib.parseUintB;simp only[show (c.toNat=43)=False from eq_false (by omega),show (c.toNat=45)=False from eq_false h,or_false,if_false,reduceCtorEq];rcases pu (2 ^ 64 - 1) (c::r) 0 ha with⟨u,e⟩ | e
    ·rw[e];simp only[not_false_iff,true_and,false_and,if_false];split
     ·exact .inr rfl
     ·exact .inl ⟨_,rfl⟩
    ·rw[e];exact .inr rfl
theorem Dn:eK Tryz.prog cm pC:=fun args v hv=>by
 unfold pC at hv ⊢;dsimp only at hv ⊢;split at hv
 ·rename_i s;split at hv
  ·rename_i hl;cases hv;refine ct (n:=5) (h':=h0) (mI (ss:=[ke,trimS,xc]) (by simp[xp.lift,JY.lift,HB])) ?_ (by simp[AV.refs,AV.ai]) (by simp[AV.refs,AV.ai]);have c1:=vZ s [45];have hdl:(Lib.trimPrefix s [45]).length≤s.length:=by unfold Lib.trimPrefix;split<;>simp
   have c2:=I1 (Lib.trimPrefix s [45]) (by omega);unfold digits at c2;have c3:=HX s hl;unfold kq;dsimp only;have hb:∀l:List UInt8,(l==[])=decide (l=[]):=fun l=>by cases l<;>rfl
   by_cases hd:Lib.trimPrefix s [45]=[]
   ·rw[if_pos hd];rw[hd] at c1;simp[F0,OC,c1,jV,u6,rH]
   ·rw[if_neg hd];have e1:(Lib.trimPrefix s [45]==[])=false:=by rw[hb];simpa using hd
    cases ha:eN (Lib.trimPrefix s [45]) with
    | false=>
      have e2:(xX (Lib.trimPrefix s [45])==[])=false:=by
       rw[hb];simp only[decide_eq_false_iff_not];intro h;rw[yW,ha] at h;cases h
      simp[F0,OC,c1,c2,e1,e2,jV,u6,rH]
    | true=>
      have e2:xX (Lib.trimPrefix s [45])=[]:=(yW _).2 ha;rw[e2] at c2;unfold Aa at c3;rcases B5 s hd ha with⟨u,e⟩ | e
      ·rw[e] at c3 ⊢;dsimp only at c3;simp[F0,OC,c1,c2,c3,e1,jV,u6,rH]
      ·rw[e] at c3 ⊢;dsimp only at c3;simp[F0,OC,c1,c2,c3,e1,jV,u6,rH]
  ·cases hv
 ·cases hv
theorem fL:nN.f=75:=(rfl)
theorem GZ (c:UInt8):nN.S [.int .u8 c.toNat]=some (.bool (jM c)):=lT _ _ c
theorem fE:nZ.f=77:=(rfl)
theorem Hb (c:UInt8):nZ.S [.int .u8 c.toNat]=some (.bool (jN c)):=lT _ _ c
theorem IP (c:UInt8):n9.S [.int .u8 c.toNat]=some (.bool (dB c)):=lT _ _ c
def Ce:List aR:=[nN,nZ,n9,H3,pC,gK,fU]
theorem OA:∀s ∈ Ce,eK Tryz.prog cm s:=by simp[Ce,y0.lift,yj.lift,wv.lift,F5.lift,Dn,xw.lift,lW.lift]
def BN:List bL:=[runM,Hf,wS,yC]
theorem OH:∀m ∈ BN,dk Tryz.prog cm m:=by simp[BN,F7.lift,Ln.lift,Cg.lift,Ku.lift]
theorem DY {s:List UInt8} {k:Nat} (h:k≤s.length):sliceB s.length (some (.int .i64 k)) none=some (k,s.length):=by
 have a1:(0:Int)≤(k:Int)∧(k:Int)≤(s.length:Int):=by omega
 simp[sliceB,a1]
theorem HW (c:UInt8):decide (0≤kg c.toNat uq)=kX c:=so _ _
theorem Aj (c d a b:UInt8) (r:List UInt8):Lib.hasPrefix (c::d::r) [a,b]=(decide (c.toNat=a.toNat)&&decide (d.toNat=b.toNat)):=by
 have e:∀x y:UInt8,(x==y)=decide (y.toNat=x.toNat):=fun x y=>by
  by_cases h:x=y
  ·subst h;simp
  ·have:¬ y.toNat=x.toNat:=fun e=>h (UInt8.toNat_inj.1 e.symm)
   rw[decide_eq_false this];simpa using h
 simp[Lib.hasPrefix,List.isPrefixOf,e]
theorem EX (c a b:UInt8):Lib.hasPrefix [c] [a,b]=false:=by simp[Lib.hasPrefix,List.isPrefixOf]
def eL (t:Tok):AV:=.agg [.int .i64 t.kind,.str t.text,.int .i64 t.num,.bool t.gS,.int .i64 t.at_]
def GY:bL:=⟨45,fun
 | [.ptr 0 0],[.row [.str s,.int .i64 i]]=>if s.length < 1000000000∧0≤i∧i < s.length then
  some (.tuple [eL (cC (s.drop i.toNat)).1,.int .i64 (cC (s.drop i.toNat)).2.2],some [.row [.str s,.int .i64 (i.toNat+(cC (s.drop i.toNat)).2.1:Nat)]]) else none
 | _,_=>none⟩
theorem dC:GY.f=45:=(rfl)
theorem EW (s:List UInt8) (k:Nat) (hl:s.length < 1000000000) (hk:k < s.length):
 GY.S [.ptr 0 0] [.row [.str s,.int .i64 k]]=some (.tuple [eL (cC (s.drop k)).1,.int .i64 (cC (s.drop k)).2.2],some [.row [.str s,.int .i64 (k+(cC (s.drop k)).2.1:Nat)]]):=by
 simp only[GY];rw[if_pos ⟨hl,by omega,by omega⟩,Int.toNat_natCast]
theorem IJ (s:List UInt8) (k:Nat) (hl:s.length < 1000000000) (hk:k < s.length) (n:Nat):
 (au (bj Ce BN) (n+2) 45 [.ptr 0 0] (tI [.row [.str s,.int .i64 k]])).map (fun p=>(p.1,p.2.get 0))=
  some (.tuple [eL (cC (s.drop k)).1,.int .i64 (cC (s.drop k)).2.2],some (.row [.str s,.int .i64 (k+(cC (s.drop k)).2.1:Nat)])):=by
 obtain⟨c,h1,hd⟩:=jG (s:=s) (k:=k) hk;rw[oV];have q1:=GZ c;have q2:=Hb c;have q3:=IP c;have q4:=EN c;have r1:=z6 76 jy (by simp[qE]) s k hl (by omega);have r2:=z6 78 dB (by simp[qE]) s k hl (by omega);have r3:=Lm s k hl hk;have r4:=BG s k hl hk;have r5:=Ki s k hl (by omega);have h3:IntKind.i64.wrap ((k:Int)+1)=(k:Int)+1:=wrap_i64 (by omega) (by omega);have h3b:IntKind.i64.wrap ((k:Int)+2)=(k:Int)+2:=wrap_i64 (by omega) (by omega);have h3c:IntKind.i64.wrap (k:Int)=(k:Int):=wrap_i64 (by omega) (by omega);have sf:=DY (s:=s) (k:=k) (by omega);have tk:(s.take s.length).drop k=s.drop k:=by rw[List.take_length]
 have hb:=c.toNat_lt;have rn1:=gQ dB (s.drop k);have F:nN.f=75∧nZ.f=77∧n9.f=78∧H3.f=82∧pC.f=79∧gK.f=84∧fU.f=65:=⟨rfl,rfl,rfl,rfl,rfl,rfl,rfl⟩
 rw[hd] at r1 r2 r4 r5 rn1 ⊢;unfold cC;dsimp only
 cases k1:jM c with
 | true=>
   rw[k1] at q1;simp only[if_true];generalize runN jy (c::s.drop (k+1))=q at *;simp only[Int.natCast_add] at r1;simp[Ce,BN,jI,Cz,h1,q1,r1,eL,fL,fE,gx,gH,eT,dE,aW,fV,iV,fh,gB]
 | false=>
 rw[k1] at q1;simp only[Bool.false_eq_true,if_false]
 cases k2:jN c with
 | true=>
   rw[k2] at q2;simp only[if_true];generalize runN jy (c::s.drop (k+1))=q at *;simp only[Int.natCast_add] at r1;simp[Ce,BN,jI,Cz,h1,q1,q2,r1,eL,fL,fE,gx,gH,eT,dE,aW,fV,iV,fh,gB]
 | false=>
 rw[k2] at q2;simp only[Bool.false_eq_true,if_false]
 cases k3:dB c with
 | true=>
   rw[k3] at q3;simp only[if_true];have q5:=Dl ((c::s.drop (k+1)).take (runN dB (c::s.drop (k+1)))) (by rw[List.length_take];simp;omega);generalize (c::s.drop (k+1)).take (runN dB (c::s.drop (k+1)))=D at *;generalize runN dB (c::s.drop (k+1))=q at *;generalize kq D=P at *;obtain⟨v,e⟩:=P;dsimp only at q5 ⊢;simp only[Int.natCast_add] at r2;simp[Ce,BN,jI,Cz,h1,q1,q2,q3,q5,r2,eL,fL,fE,gx,gH,eT,dE,aW,fV,iV,fh,gB]
 | false=>
 rw[k3] at q3;simp only[Bool.false_eq_true,if_false];by_cases k4:c.toNat=39
 ·have k4':((c.toNat:Int)=39)=True:=eq_true (by omega);rw[if_pos k4];generalize eP ((s.drop (k+1)).length+1) (s.drop (k+1)) [] 1=Q at *;obtain⟨a,q⟩:=Q;simp only[Int.natCast_add] at r3
  cases a with
  | none=>
    simp only[A5,fm] at r3;simp[Ce,BN,jI,Cz,h1,q1,q2,q3,k4',r3,eL,rC,fL,fE,gx,gH,eT,dE,aW,fV,iV,fh,gB]
  | some t=>
    simp only[A5,fm] at r3;simp[Ce,BN,jI,Cz,h1,q1,q2,q3,k4',r3,eL,rC,fL,fE,gx,gH,eT,dE,aW,fV,iV,fh,gB]
 have k4':((c.toNat:Int)=39)=False:=eq_false (by omega);rw[if_neg k4]
 cases k5:jj (c::s.drop (k+1)) with
 | true=>
   rw[k5] at r4;simp only[if_true];simp[Ce,BN,jI,Cz,h1,h3,q1,q2,q3,k4',r4,eL,fL,fE,gx,gH,eT,dE,aW,fV,iV,fh,gB]
 | false=>
 rw[k5] at r4;simp only[Bool.false_eq_true,if_false]
 cases k6:pF c with
 | true=>
   rw[k6] at q4;simp only[if_true];generalize j7 (c::s.drop (k+1))=q at *;simp only[Int.natCast_add] at r5;simp[Ce,BN,jI,Cz,h1,q1,q2,q3,q4,k4',r4,r5,eL,fL,fE,gx,gH,eT,dE,aW,fV,iV,fh,gB]
 | false=>
 rw[k6] at q4;simp only[Bool.false_eq_true,if_false];have nn:((c.toNat:Int)).toNat=c.toNat:=by omega
 have cc:UInt8.ofNat c.toNat=c:=by simp
 by_cases k7:c.toNat=59∨c.toNat=33
 ·rw[if_pos k7];have c128:((c.toNat:Int) < 128)=True:=eq_true (by omega);by_cases k8:c.toNat=59
  ·have k8':((c.toNat:Int)=59)=True:=eq_true (by omega);simp[Ce,BN,jI,Cz,h1,h3,q1,q2,q3,q4,k4',k8',r4,c128,nn,cc,eL,fL,fE,gx,gH,eT,dE,aW,fV,iV,fh,gB]
  ·have k8':((c.toNat:Int)=59)=False:=eq_false (by omega);have k9':((c.toNat:Int)=33)=True:=eq_true (by omega);simp[Ce,BN,jI,Cz,h1,h3,q1,q2,q3,q4,k4',k8',k9',r4,c128,nn,cc,eL,fL,fE,gx,gH,eT,dE,aW,fV,iV,fh,gB]
 rw[if_neg k7];have k8':((c.toNat:Int)=59)=False:=eq_false (by omega);have k9':((c.toNat:Int)=33)=False:=eq_false (by omega);have p1:gK.S [.str (s.drop k),.str [91,93]]=some (.bool (Lib.hasPrefix (c::s.drop (k+1)) [91,93])):=by rw[←hd];exact pX _ _
 have p2:gK.S [.str (s.drop k),.str [123,125]]=some (.bool (Lib.hasPrefix (c::s.drop (k+1)) [123,125])):=by rw[←hd];exact pX _ _
 have p3:=eQ uq c;have p4:=HW c;generalize kg c.toNat uq=x at *;simp only[uq] at p3
 have punctC:kX c=true→c.toNat < 128:=fun h=>by
  unfold kX at h;rw[List.any_eq_true] at h;obtain⟨d,hd1,hd2⟩:=h;have e:=of_decide_eq_true hd2;simp only[uq,List.mem_cons,List.not_mem_nil,or_false] at hd1;rcases hd1 with rfl | rfl | rfl | rfl | rfl | rfl | rfl | rfl<;>rw[←e]<;>decide
 have fin:∀(R:Bool),R=kX c→Lib.hasPrefix (c::s.drop (k+1)) [91,93]=false→Lib.hasPrefix (c::s.drop (k+1)) [123,125]=false→
  (au (bj Ce BN) (n+2) 45 [.ptr 0 0] ⟨1,[.row [.str s,.int .i64 k]],1,1⟩).map (fun p=>(p.1,p.2.get 0))=
   some (if R then .tuple [eL ⟨5,[c],0,false,0⟩,.int .i64 0] else .tuple [eL rC,.int .i64 2],some (.row [.str s,.int .i64 (k+(if R then 1 else 0):Nat)])):=fun R hR w1 w2=>by
  rw[w1] at p1;rw[w2] at p2;rw[←hR] at p4
  cases R with
  | true=>
    have c128:((c.toNat:Int) < 128)=True:=eq_true (by have:=punctC hR.symm;omega);have p5:(0≤x)=True:=eq_true (of_decide_eq_true p4);simp[Ce,BN,jI,Cz,h1,h3,q1,q2,q3,q4,k4',k8',k9',r4,c128,nn,cc,sf,tk,p1,p2,p3,p5,eL,fL,fE,gx,gH,eT,dE,aW,fV,iV,fh,gB]
  | false=>
    have p5:(0≤x)=False:=eq_false (of_decide_eq_false p4);simp[Ce,BN,jI,Cz,h1,h3,q1,q2,q3,q4,k4',k8',k9',r4,nn,cc,sf,tk,p1,p2,p3,p5,eL,rC,fL,fE,gx,gH,eT,dE,aW,fV,iV,fh,gB]
 cases hr:s.drop (k+1) with
 | nil=>
   rw[hr] at fin;have:=fin (kX c) rfl (EX _ _ _) (EX _ _ _);rw[this];cases kX c<;>rfl
 | cons d r=>
   rw[hr] at fin;dsimp only;by_cases kk:(c.toNat=91∧d.toNat=93)∨(c.toNat=123∧d.toNat=125)
   ·rw[if_pos kk]
    have hkl:k+2≤s.length:=by
     have:=congrArg List.length hr;rw[List.length_drop] at this;simp at this;omega
    obtain⟨s1,s2⟩:=ub (s:=s) (k:=k) (q:=2) hkl;have s3:(s.drop k).take 2=[c,d]:=by rw[hd,hr];rfl
    rw[s3] at s2;simp only[Int.natCast_add,show ((2:Nat):Int)=2 from rfl] at s1;rw[hr,Aj] at p1 p2;rw[show (91:UInt8).toNat=91 from rfl,show (93:UInt8).toNat=93 from rfl] at p1;rw[show (123:UInt8).toNat=123 from rfl,show (125:UInt8).toNat=125 from rfl] at p2;rcases kk with⟨a1,a2⟩ | ⟨a1,a2⟩
    ·rw[decide_eq_true a1,decide_eq_true a2] at p1;simp[Ce,BN,jI,Cz,h1,h3b,h3c,q1,q2,q3,q4,k4',k8',k9',r4,nn,cc,sf,tk,p1,p2,s1,s2,eL,fL,fE,gx,gH,eT,dE,aW,fV,iV,fh,gB]
    ·rw[decide_eq_false (show ¬ c.toNat=91 by omega)] at p1;rw[decide_eq_true a1,decide_eq_true a2] at p2;simp[Ce,BN,jI,Cz,h1,h3b,h3c,q1,q2,q3,q4,k4',k8',k9',r4,nn,cc,sf,tk,p1,p2,s1,s2,eL,fL,fE,gx,gH,eT,dE,aW,fV,iV,fh,gB]
   ·rw[if_neg kk]
    have:=fin (kX c) rfl (by
     rw[Aj,show (91:UInt8).toNat=91 from rfl,show (93:UInt8).toNat=93 from rfl];by_cases a:c.toNat=91
     ·rw[decide_eq_true a,decide_eq_false (fun b=>kk (.inl ⟨a,b⟩))];rfl
     ·rw[decide_eq_false a];rfl) (by
     rw[Aj,show (123:UInt8).toNat=123 from rfl,show (125:UInt8).toNat=125 from rfl];by_cases a:c.toNat=123
     ·rw[decide_eq_true a,decide_eq_false (fun b=>kk (.inr ⟨a,b⟩))];rfl
     ·rw[decide_eq_false a];rfl)
    rw[this];cases kX c<;>rfl
theorem Lo:dk Tryz.prog cm GY:=fun args os v r hv=>by
 unfold GY at hv;dsimp only at hv;split at hv
 ·rename_i s i;split at hv
  ·rename_i hc;cases hv;obtain⟨k,rfl⟩:∃k:Nat,i=(k:Int):=⟨i.toNat,by omega⟩
   rw[Int.toNat_natCast,dC];exact o8 (n:=5) (eW OA OH) (IJ s k hc.1 (by omega) 3) (by simp[AV.refs,AV.ai,eL]) rfl rfl
  ·cases hv
 ·cases hv
def ee (l:List Tok):List AV:=l.flatMap Tok.cells
theorem tV (l:List Tok):∀x ∈ l.map Tok.enc,xI 5 x:=by
 intro x hx;obtain⟨o,_,rfl⟩:=List.mem_map.1 hx;exact⟨rfl,rfl,(fun h=>by cases h),fun _=>rfl,rfl⟩
theorem wz (l:List Tok):(l.map Tok.enc).flatMap AV.cells=ee l:=by
 induction l with
 | nil=>rfl
 | cons t r ih=>
   unfold ee at ih ⊢;rw[List.map_cons,List.flatMap_cons,List.flatMap_cons,ih];rfl
theorem oY (l:List Tok):(ee l).length=l.length*5:=by
 rw[←wz,wL (tV l),List.length_map]
theorem qO (l:List Tok):AV.ai (ee l)=0:=by
 rw[←wz];exact lL (wo (tV l))
theorem xq (l:List Tok) (t:Tok):ee (l++[t])=ee l++t.cells:=by simp[ee]
theorem Hh (l:List Tok):AV.ai (l.map Tok.enc)=0:=by
 induction l with
 | nil=>rfl
 | cons t r ih=>simp[AV.ai,ih,Tok.enc,Tok.cells,AV.refs]
theorem Sn {h:aa} {n0 d id:Nat} (x:Tok) (r:List Tok) (hid:n0≤id) (hg:h.get id=some (.row (ee (x::r)))):
 hO h n0 (d+2) (.vec id 0 (r.length+1) 5 (r.length+1))=some (.sl ((x::r).map Tok.enc),[id]):=
 vl hid hg (by omega) (tV (x::r)) (by simp) (by rw[oY];simp) (by rw[wz,List.take_of_length_le];rw[oY];simp)
def vK (id:Nat):List Tok→AV
 | []=>.aw
 | x::r=>.vec id 0 (r.length+1) 5 (r.length+1)
def hK (us:List Tok) (B:List bf):List bf:=match us with
 | []=>B
 | x::r=>.row (ee (x::r))::B
theorem RZ {id:Nat} {l:List Tok} (h:l≠[]):vK id l=.vec id 0 l.length 5 l.length:=by
 cases l with
 | nil=>exact absurd rfl h
 | cons x r=>rfl
theorem Rt {l:List Tok} {B:List bf} (h:l≠[]):hK l B=.row (ee l)::B:=by
 cases l with
 | nil=>exact absurd rfl h
 | cons x r=>rfl
def jh:List aR:=[]
def jb:List bL:=[GY,xo]
theorem PL:∀m ∈ jb,dk Tryz.prog cm m:=by simp[jb,Lo,J4.lift]
def MJ (r:List Tok×Int×Int) (s:List UInt8) (R:Option (Ex×List AV×aa)):Prop:=
 ∃md',(r.2.2=0∧r.2.1=s.length∧R=some (.exit 0,FM 89 [(0,.str s),(6,vK 1 r.1)],⟨(hK r.1 [.row [.str s,.int .i64 s.length]]).length,hK r.1 [.row [.str s,.int .i64 s.length]],0,md'⟩))∨
   (r.2.2≠0∧r.1=[]∧∃x,R=some (.ret,FM 89 [(2,.aw),(3,.int .i64 r.2.1),(4,.int .i64 r.2.2)],⟨1,[.row [.str s,.int .i64 x]],0,md'⟩))
theorem A7 (n:Nat) (s:List UInt8) (hl:s.length≤4096):∀(f:Nat) (acc:List Tok) (j m md:Nat),acc≠[]→acc.length≤1024→j≤s.length→s.length - j < f→f≤m→
 MJ (oA f s j acc) s (ju 1 0 (cM (aT (au (bj jh jb) (n+1)) (n+1) dF) dj 1 m (wH (.str s) (.ptr 0 0) (.vec 1 0 acc.length 5 acc.length)) ⟨2,[.row (ee acc),.row [.str s,.int .i64 j]],1,md⟩))
 | 0,acc,j,m,md,hne,hac,hk,h,_=>by omega
 | f+1,acc,j,0,md,hne,hac,_,_,h=>by omega
 | f+1,acc,j,m+1,md,hne,hac,hk,hf0,hm=>by
   rw[aC];have hf:=qO acc;have h8:(acc.length+1)*48≤140737488355328:=by omega
   have h9:acc.length+1 < 9223372036854775808:=by omega
   have h10:(ee acc).take (acc.length*5)=ee acc:=by rw[List.take_of_length_le];rw[oY];exact Nat.le_refl _
   have h11:=oY acc;unfold oA;by_cases he:j=s.length
   ·have h6:((j:Int) < (s.length:Int))=False:=eq_false (by omega);rw[if_pos (by omega)];refine⟨md,.inl ⟨rfl,rfl,?_⟩⟩;rw[RZ hne,Rt hne];simp[jh,jb,dF,dj,dC,cS,eL,hf,h8,h9,h10,h11,aS,h6,he]
   ·have hjl:j < s.length:=by omega
    have h6:((j:Int) < (s.length:Int))=True:=eq_true (by omega);rw[if_neg (by omega)];have q1:=EW s j (by omega) hjl;obtain⟨b1,b2⟩:=iH (s.drop j);rw[List.length_drop] at b1;generalize cC (s.drop j)=O at *;obtain⟨⟨kd,tx,nm,op,a0⟩,k,e⟩:=O;dsimp only at q1 b1 b2 ⊢;simp only[Int.natCast_add,eL] at q1;by_cases e0:e=0
    ·subst e0;rw[if_neg (by simp)];have hk1:=b2 rfl;by_cases hbad:((kd=1∨kd=2)∧64 < tx.length)∨(acc:List Tok).length=1024
     ·rw[if_pos hbad];refine⟨0,.inr ⟨by simp,rfl,(j+k:Nat),?_⟩⟩;by_cases k1:kd=1
      ·by_cases k3:64 < tx.length
       ·have k3':((64:Int) < (tx.length:Int))=True:=eq_true (by omega);simp[jh,jb,dF,dj,dC,cS,eL,hf,h8,h9,h10,h11,aS,h6,q1,k1,k3']
       ·have k3':((64:Int) < (tx.length:Int))=False:=eq_false (by omega);have k4:(acc:List Tok).length=1024:=by omega
        have k4':((acc.length:Int)=1024)=True:=eq_true (by omega);simp[jh,jb,dF,dj,dC,cS,eL,hf,h8,h9,h10,h11,aS,h6,q1,k1,k3',k4']
      ·by_cases k2:kd=2
       ·by_cases k3:64 < tx.length
        ·have k3':((64:Int) < (tx.length:Int))=True:=eq_true (by omega);simp[jh,jb,dF,dj,dC,cS,eL,hf,h8,h9,h10,h11,aS,h6,q1,k2,k3']
        ·have k3':((64:Int) < (tx.length:Int))=False:=eq_false (by omega);have k4:(acc:List Tok).length=1024:=by omega
         have k4':((acc.length:Int)=1024)=True:=eq_true (by omega);simp[jh,jb,dF,dj,dC,cS,eL,hf,h8,h9,h10,h11,aS,h6,q1,k2,k3',k4']
       ·have k4:(acc:List Tok).length=1024:=by omega
        have k4':((acc.length:Int)=1024)=True:=eq_true (by omega);simp[jh,jb,dF,dj,dC,cS,eL,hf,h8,h9,h10,h11,aS,h6,q1,k1,k2,k4']
     ·rw[if_neg hbad];have hsk:=ja (s.length+1) (s.drop (j+k));rw[List.length_drop] at hsk;have q2:=wZ s (j+k) (by omega) (by omega);simp only[Int.natCast_add] at q2;have n0:(0≤(j:Int)+(k:Int))=True:=eq_true (by omega);have n2:((j:Int)+(k:Int)).toNat=j+k:=by omega
      have hopn:(s[j+k]? =none∧((j:Int)+(k:Int) < (s.length:Int))=False)∨∃d,s[j+k]? =some d∧((j:Int)+(k:Int) < (s.length:Int))=True:=by
       by_cases hx:j+k < s.length
       ·exact .inr ⟨s[j+k],List.getElem?_eq_getElem hx,eq_true (by omega)⟩
       ·exact .inl ⟨List.getElem?_eq_none (by omega),eq_false (by omega)⟩
      have k4':((acc.length:Int)=1024)=False:=eq_false (by omega)
      have key:∀(b:Bool),decide ((s[j+k]?.map UInt8.toNat)=some 40)=b→(∀(R:Option (Ex×List AV×aa)),R=ju 1 0 (cM (aT (au (bj jh jb) (n+1)) (n+1) dF) dj 1 m (wH (.str s) (.ptr 0 0) (.vec 1 0 (acc++[(⟨kd,tx,nm,b,j⟩:Tok)]).length 5 (acc++[(⟨kd,tx,nm,b,j⟩:Tok)]).length)) ⟨2,[.row (ee (acc++[(⟨kd,tx,nm,b,j⟩:Tok)])),.row [.str s,.int .i64 (j+k+dx (s.length+1) (s.drop (j+k)):Nat)]],1,0⟩)→
       MJ (oA f s (j+k+dx (s.length+1) (s.drop (j+k))) (acc++[(⟨kd,tx,nm,decide ((s[j+k]?.map UInt8.toNat)=some 40),j⟩:Tok)])) s R):=fun b hb R hR=>by
       rw[hR,hb];exact A7 n s hl f (acc++[⟨kd,tx,nm,b,j⟩]) (j+k+dx (s.length+1) (s.drop (j+k))) m 0 (by simp) (by simp<;>omega) (by omega) (by omega) (by omega)
      generalize dx (s.length+1) (s.drop (j+k))=sk at *;have tkc:∀b:Bool,ee (acc++[(⟨kd,tx,nm,b,j⟩:Tok)])=ee acc++[.int .i64 kd,.str tx,.int .i64 nm,.bool b,.int .i64 j]:=fun b=>xq _ _
      have hf2:∀b:Bool,AV.ai (ee acc++[.int .i64 kd,.str tx,.int .i64 nm,.bool b,.int .i64 j])=0:=fun b=>by rw[←tkc];exact qO _
      rcases hopn with⟨x1,x2⟩ | ⟨d,x1,x2⟩
      ·by_cases k1:kd=1
       ·obtain rfl:=k1;have k3':((64:Int) < (tx.length:Int))=False:=eq_false (by omega);refine key false (by simp[x1]) _ ?_;simp only[tkc,List.length_append,List.length_cons,List.length_nil,Nat.zero_add,Int.natCast_add,jh,jb];simp[jh,jb,dF,dj,dC,cS,eL,hf,h8,h9,h10,h11,aS,h6,q1,q2,n0,n2,k4',hf2,x2,k3']
       ·by_cases k2:kd=2
        ·obtain rfl:=k2;have k3':((64:Int) < (tx.length:Int))=False:=eq_false (by omega);refine key false (by simp[x1]) _ ?_;simp only[tkc,List.length_append,List.length_cons,List.length_nil,Nat.zero_add,Int.natCast_add,jh,jb];simp[jh,jb,dF,dj,dC,cS,eL,hf,h8,h9,h10,h11,aS,h6,q1,q2,n0,n2,k4',hf2,x2,k3']
        ·refine key false (by simp[x1]) _ ?_;simp only[tkc,List.length_append,List.length_cons,List.length_nil,Nat.zero_add,Int.natCast_add,jh,jb];simp[jh,jb,dF,dj,dC,cS,eL,hf,h8,h9,h10,h11,aS,h6,q1,q2,n0,n2,k4',hf2,x2,k1,k2]
      ·by_cases k40:d.toNat=40
       ·have k40':((d.toNat:Int)=40)=True:=eq_true (by omega);by_cases k1:kd=1
        ·obtain rfl:=k1;have k3':((64:Int) < (tx.length:Int))=False:=eq_false (by omega);refine key true (by simp[x1,k40]) _ ?_;simp only[tkc,List.length_append,List.length_cons,List.length_nil,Nat.zero_add,Int.natCast_add,jh,jb];simp[jh,jb,dF,dj,dC,cS,eL,hf,h8,h9,h10,h11,aS,h6,q1,q2,n0,n2,k4',hf2,x1,x2,k40',k3']
        ·by_cases k2:kd=2
         ·obtain rfl:=k2;have k3':((64:Int) < (tx.length:Int))=False:=eq_false (by omega);refine key true (by simp[x1,k40]) _ ?_;simp only[tkc,List.length_append,List.length_cons,List.length_nil,Nat.zero_add,Int.natCast_add,jh,jb];simp[jh,jb,dF,dj,dC,cS,eL,hf,h8,h9,h10,h11,aS,h6,q1,q2,n0,n2,k4',hf2,x1,x2,k40',k3']
         ·refine key true (by simp[x1,k40]) _ ?_;simp only[tkc,List.length_append,List.length_cons,List.length_nil,Nat.zero_add,Int.natCast_add,jh,jb];simp[jh,jb,dF,dj,dC,cS,eL,hf,h8,h9,h10,h11,aS,h6,q1,q2,n0,n2,k4',hf2,x1,x2,k40',k1,k2]
       ·have k40':((d.toNat:Int)=40)=False:=eq_false (by omega);by_cases k1:kd=1
        ·obtain rfl:=k1;have k3':((64:Int) < (tx.length:Int))=False:=eq_false (by omega);refine key false (by simp[x1,k40]) _ ?_;simp only[tkc,List.length_append,List.length_cons,List.length_nil,Nat.zero_add,Int.natCast_add,jh,jb];simp[jh,jb,dF,dj,dC,cS,eL,hf,h8,h9,h10,h11,aS,h6,q1,q2,n0,n2,k4',hf2,x1,x2,k40',k3']
        ·by_cases k2:kd=2
         ·obtain rfl:=k2;have k3':((64:Int) < (tx.length:Int))=False:=eq_false (by omega);refine key false (by simp[x1,k40]) _ ?_;simp only[tkc,List.length_append,List.length_cons,List.length_nil,Nat.zero_add,Int.natCast_add,jh,jb];simp[jh,jb,dF,dj,dC,cS,eL,hf,h8,h9,h10,h11,aS,h6,q1,q2,n0,n2,k4',hf2,x1,x2,k40',k3']
         ·refine key false (by simp[x1,k40]) _ ?_;simp only[tkc,List.length_append,List.length_cons,List.length_nil,Nat.zero_add,Int.natCast_add,jh,jb];simp[jh,jb,dF,dj,dC,cS,eL,hf,h8,h9,h10,h11,aS,h6,q1,q2,n0,n2,k4',hf2,x1,x2,k40',k1,k2]
    ·rw[if_pos e0];refine⟨0,.inr ⟨e0,rfl,(j+k:Nat),?_⟩⟩;simp[jh,jb,dF,dj,dC,cS,eL,hf,h8,h9,h10,h11,aS,h6,q1,e0]
theorem HH (n:Nat) (s:List UInt8) (hl:s.length≤4096):∀(f j m md:Nat),j≤s.length→s.length - j < f→f≤m→
 MJ (oA f s j []) s (ju 1 0 (cM (aT (au (bj jh jb) (n+1)) (n+1) dF) dj 1 m (wH (.str s) (.ptr 0 0) .aw) ⟨1,[.row [.str s,.int .i64 j]],1,md⟩))
 | 0,j,m,md,hk,h,_=>by omega
 | f+1,j,0,md,_,_,h=>by omega
 | f+1,j,m+1,md,hk,hf0,hm=>by
   rw[aC];unfold oA;by_cases he:j=s.length
   ·have h6:((j:Int) < (s.length:Int))=False:=eq_false (by omega);rw[if_pos (by omega)];refine⟨md,.inl ⟨rfl,rfl,?_⟩⟩;unfold vK hK;simp[jh,jb,dF,dj,dC,cS,eL,aS,h6,he]
   ·have hjl:j < s.length:=by omega
    have h6:((j:Int) < (s.length:Int))=True:=eq_true (by omega);rw[if_neg (by omega)];have q1:=EW s j (by omega) hjl;obtain⟨b1,b2⟩:=iH (s.drop j);rw[List.length_drop] at b1;generalize cC (s.drop j)=O at *;obtain⟨⟨kd,tx,nm,op,a0⟩,k,e⟩:=O;dsimp only at q1 b1 b2 ⊢;simp only[Int.natCast_add,eL] at q1;by_cases e0:e=0
    ·subst e0;rw[if_neg (by simp)];have hk1:=b2 rfl;by_cases hbad:((kd=1∨kd=2)∧64 < tx.length)∨([]:List Tok).length=1024
     ·rw[if_pos hbad];refine⟨0,.inr ⟨by simp,rfl,(j+k:Nat),?_⟩⟩;by_cases k1:kd=1
      ·by_cases k3:64 < tx.length
       ·have k3':((64:Int) < (tx.length:Int))=True:=eq_true (by omega);simp[jh,jb,dF,dj,dC,cS,eL,aS,h6,q1,k1,k3']
       ·have k3':((64:Int) < (tx.length:Int))=False:=eq_false (by omega);have k4:([]:List Tok).length=1024:=by omega
        exact absurd k4 (by simp)

      ·by_cases k2:kd=2
       ·by_cases k3:64 < tx.length
        ·have k3':((64:Int) < (tx.length:Int))=True:=eq_true (by omega);simp[jh,jb,dF,dj,dC,cS,eL,aS,h6,q1,k2,k3']
        ·have k3':((64:Int) < (tx.length:Int))=False:=eq_false (by omega);have k4:([]:List Tok).length=1024:=by omega
         exact absurd k4 (by simp)

       ·have k4:([]:List Tok).length=1024:=by omega
        exact absurd k4 (by simp)

     ·rw[if_neg hbad];have hsk:=ja (s.length+1) (s.drop (j+k));rw[List.length_drop] at hsk;have q2:=wZ s (j+k) (by omega) (by omega);simp only[Int.natCast_add] at q2;have n0:(0≤(j:Int)+(k:Int))=True:=eq_true (by omega);have n2:((j:Int)+(k:Int)).toNat=j+k:=by omega
      have hopn:(s[j+k]? =none∧((j:Int)+(k:Int) < (s.length:Int))=False)∨∃d,s[j+k]? =some d∧((j:Int)+(k:Int) < (s.length:Int))=True:=by
       by_cases hx:j+k < s.length
       ·exact .inr ⟨s[j+k],List.getElem?_eq_getElem hx,eq_true (by omega)⟩
       ·exact .inl ⟨List.getElem?_eq_none (by omega),eq_false (by omega)⟩
      have k4':((0:Int)=1024)=False:=by simp
      have key:∀(b:Bool),decide ((s[j+k]?.map UInt8.toNat)=some 40)=b→(∀(R:Option (Ex×List AV×aa)),R=ju 1 0 (cM (aT (au (bj jh jb) (n+1)) (n+1) dF) dj 1 m (wH (.str s) (.ptr 0 0) (.vec 1 0 ([]++[(⟨kd,tx,nm,b,j⟩:Tok)]).length 5 ([]++[(⟨kd,tx,nm,b,j⟩:Tok)]).length)) ⟨2,[.row (ee ([]++[(⟨kd,tx,nm,b,j⟩:Tok)])),.row [.str s,.int .i64 (j+k+dx (s.length+1) (s.drop (j+k)):Nat)]],1,0⟩)→
       MJ (oA f s (j+k+dx (s.length+1) (s.drop (j+k))) ([]++[(⟨kd,tx,nm,decide ((s[j+k]?.map UInt8.toNat)=some 40),j⟩:Tok)])) s R):=fun b hb R hR=>by
       rw[hR,hb];exact A7 n s hl f ([]++[⟨kd,tx,nm,b,j⟩]) (j+k+dx (s.length+1) (s.drop (j+k))) m 0 (by simp) (by simp<;>omega) (by omega) (by omega) (by omega)
      generalize dx (s.length+1) (s.drop (j+k))=sk at *;have tkc:∀b:Bool,ee ([]++[(⟨kd,tx,nm,b,j⟩:Tok)])=ee []++[.int .i64 kd,.str tx,.int .i64 nm,.bool b,.int .i64 j]:=fun b=>xq _ _
      have hf2:∀b:Bool,AV.ai (ee []++[.int .i64 kd,.str tx,.int .i64 nm,.bool b,.int .i64 j])=0:=fun b=>by rw[←tkc];exact qO _
      rcases hopn with⟨x1,x2⟩ | ⟨d,x1,x2⟩
      ·by_cases k1:kd=1
       ·obtain rfl:=k1;have k3':((64:Int) < (tx.length:Int))=False:=eq_false (by omega);refine key false (by simp[x1]) _ ?_;simp only[tkc,List.length_append,List.length_cons,List.length_nil,Nat.zero_add,Int.natCast_add,ee,List.flatMap_nil,List.flatMap_cons,List.append_nil,Tok.cells,List.nil_append,jh,jb];simp[jh,jb,dF,dj,dC,cS,eL,aS,h6,q1,q2,n0,n2,k4',x2,k3']
       ·by_cases k2:kd=2
        ·obtain rfl:=k2;have k3':((64:Int) < (tx.length:Int))=False:=eq_false (by omega);refine key false (by simp[x1]) _ ?_;simp only[tkc,List.length_append,List.length_cons,List.length_nil,Nat.zero_add,Int.natCast_add,ee,List.flatMap_nil,List.flatMap_cons,List.append_nil,Tok.cells,List.nil_append,jh,jb];simp[jh,jb,dF,dj,dC,cS,eL,aS,h6,q1,q2,n0,n2,k4',x2,k3']
        ·refine key false (by simp[x1]) _ ?_;simp only[tkc,List.length_append,List.length_cons,List.length_nil,Nat.zero_add,Int.natCast_add,ee,List.flatMap_nil,List.flatMap_cons,List.append_nil,Tok.cells,List.nil_append,jh,jb];simp[jh,jb,dF,dj,dC,cS,eL,aS,h6,q1,q2,n0,n2,k4',x2,k1,k2]
      ·by_cases k40:d.toNat=40
       ·have k40':((d.toNat:Int)=40)=True:=eq_true (by omega);by_cases k1:kd=1
        ·obtain rfl:=k1;have k3':((64:Int) < (tx.length:Int))=False:=eq_false (by omega);refine key true (by simp[x1,k40]) _ ?_;simp only[tkc,List.length_append,List.length_cons,List.length_nil,Nat.zero_add,Int.natCast_add,ee,List.flatMap_nil,List.flatMap_cons,List.append_nil,Tok.cells,List.nil_append,jh,jb];simp[jh,jb,dF,dj,dC,cS,eL,aS,h6,q1,q2,n0,n2,k4',x1,x2,k40',k3']
        ·by_cases k2:kd=2
         ·obtain rfl:=k2;have k3':((64:Int) < (tx.length:Int))=False:=eq_false (by omega);refine key true (by simp[x1,k40]) _ ?_;simp only[tkc,List.length_append,List.length_cons,List.length_nil,Nat.zero_add,Int.natCast_add,ee,List.flatMap_nil,List.flatMap_cons,List.append_nil,Tok.cells,List.nil_append,jh,jb];simp[jh,jb,dF,dj,dC,cS,eL,aS,h6,q1,q2,n0,n2,k4',x1,x2,k40',k3']
         ·refine key true (by simp[x1,k40]) _ ?_;simp only[tkc,List.length_append,List.length_cons,List.length_nil,Nat.zero_add,Int.natCast_add,ee,List.flatMap_nil,List.flatMap_cons,List.append_nil,Tok.cells,List.nil_append,jh,jb];simp[jh,jb,dF,dj,dC,cS,eL,aS,h6,q1,q2,n0,n2,k4',x1,x2,k40',k1,k2]
       ·have k40':((d.toNat:Int)=40)=False:=eq_false (by omega);by_cases k1:kd=1
        ·obtain rfl:=k1;have k3':((64:Int) < (tx.length:Int))=False:=eq_false (by omega);refine key false (by simp[x1,k40]) _ ?_;simp only[tkc,List.length_append,List.length_cons,List.length_nil,Nat.zero_add,Int.natCast_add,ee,List.flatMap_nil,List.flatMap_cons,List.append_nil,Tok.cells,List.nil_append,jh,jb];simp[jh,jb,dF,dj,dC,cS,eL,aS,h6,q1,q2,n0,n2,k4',x1,x2,k40',k3']
        ·by_cases k2:kd=2
         ·obtain rfl:=k2;have k3':((64:Int) < (tx.length:Int))=False:=eq_false (by omega);refine key false (by simp[x1,k40]) _ ?_;simp only[tkc,List.length_append,List.length_cons,List.length_nil,Nat.zero_add,Int.natCast_add,ee,List.flatMap_nil,List.flatMap_cons,List.append_nil,Tok.cells,List.nil_append,jh,jb];simp[jh,jb,dF,dj,dC,cS,eL,aS,h6,q1,q2,n0,n2,k4',x1,x2,k40',k3']
         ·refine key false (by simp[x1,k40]) _ ?_;simp only[tkc,List.length_append,List.length_cons,List.length_nil,Nat.zero_add,Int.natCast_add,ee,List.flatMap_nil,List.flatMap_cons,List.append_nil,Tok.cells,List.nil_append,jh,jb];simp[jh,jb,dF,dj,dC,cS,eL,aS,h6,q1,q2,n0,n2,k4',x1,x2,k40',k1,k2]
    ·rw[if_pos e0];refine⟨0,.inr ⟨e0,rfl,(j+k:Nat),?_⟩⟩;simp[jh,jb,dF,dj,dC,cS,eL,aS,h6,q1,e0]
def jz (l:List Tok):AV:=match l with
 | []=>.aw
 | _=>.sl (l.map Tok.enc)
def uU (r:List Tok×Int×Int):AV:=.tuple [jz r.1,.int .i64 r.2.1,.int .i64 r.2.2]
theorem CU (l:List Tok):(jz l).refs=0:=by
 cases l with
 | nil=>rfl
 | cons x r=>rfl
theorem MP (s:List UInt8):∃h',au (bj jh jb) (s.length+4) 15 [.str s] h0=some (uU (dJ s),h')∧(uU (dJ s)).refs=0:=by
 have hrefs:∀r:List Tok×Int×Int,(uU r).refs=0:=fun r=>by simp[uU,AV.refs,AV.ai,CU]
 refine Exists.elim ?_ fun h' hh=>⟨h',hh,hrefs _⟩
 unfold dJ;by_cases hl:4096 < s.length
 ·have h1:((4096:Int) < (s.length:Int))=True:=eq_true (by omega);rw[if_pos hl];exact⟨_,by simp[jh,jb,zG,Ov,h1,uU,jz,dC,cS];rfl⟩
 have h1:((4096:Int) < (s.length:Int))=False:=eq_false (by omega);rw[if_neg hl];have q2:=wZ s 0 (by omega) (by omega);have hsk:=ja (s.length+1) s;simp only[List.drop_zero,Nat.zero_add] at q2;have q2':xo.S [.ptr 0 0] [.row [.str s,.int .i64 0]]=some (.tuple [],some [.row [.str s,.int .i64 (dx (s.length+1) s:Nat)]]):=q2;have lp:=HH (s.length+2) s (by omega) (s.length+1) (dx (s.length+1) s) (s.length+3) 0 hsk (by omega) (by omega);generalize oA (s.length+1) s (dx (s.length+1) s) []=R at *;obtain⟨l,at_,e⟩:=R;simp only[jh,jb,dj,wH] at lp;obtain⟨md,⟨e1,e2,e3⟩ | ⟨e1,e2,x,e3⟩⟩:=lp
 ·dsimp only at e1 e2 e3;subst e1 e2
  cases l with
  | nil=>
    simp only[vK,hK] at e3;exact⟨_,by simp[jh,jb,zG,Ov,dj,h1,uU,jz,q2',dC,cS,e3];with_reducible rfl⟩
  | cons t r=>
    simp only[vK,hK] at e3;have fk:∀d,hO ⟨2,[.row (ee (t::r)),.row [.str s,.int .i64 s.length]],0,md⟩ 0 (d+2) (.vec 1 0 (r.length+1) 5 (r.length+1))=some (.sl ((t::r).map Tok.enc),[1]):=fun d=>Sn t r (Nat.zero_le 1) rfl
    have rf:=Hh (t::r);rw[List.map_cons,AV.ai] at rf;exact⟨_,by simp[jh,jb,zG,Ov,dj,h1,uU,jz,q2',dC,cS,e3,fk,rf,-mB];with_reducible rfl⟩
 ·dsimp only at e1 e2 e3;subst e2;exact⟨_,by simp[jh,jb,zG,Ov,dj,h1,uU,jz,q2',dC,cS,e3];with_reducible rfl⟩
noncomputable def HN:aR:=⟨15,fun
 | [.str s]=>some (uU (dJ s))
 | _=>none⟩
theorem fJ:HN.f=15:=(rfl)
theorem Ez (s:List UInt8):HN.S [.str s]=some (uU (dJ s)):=(rfl)
theorem F4:eK Tryz.prog cm HN:=fun args v hv=>by
 unfold HN at hv ⊢;dsimp only at hv ⊢;split at hv
 ·rename_i s;cases hv;obtain⟨h',e,hr⟩:=MP s;exact ct (eW (ss:=jh) (by simp[jh]) PL) e hr (by simp[AV.refs,AV.ai])
 ·cases hv
structure bM where
 n:List UInt8
 k:List UInt8
 l:Int
def bM.cells (o:bM):List AV:=[.str o.n,.str o.k,.int .i64 o.l]
def bM.enc (o:bM):AV:=.agg o.cells
def kV:AV→Option bM
 | .agg [.str a,.str b,.int .i64 l]=>some ⟨a,b,l⟩
 | _=>none
def lu:List AV→Option (List bM)
 | []=>some []
 | v::r=>match kV v,lu r with
   | some o,some os=>some (o::os)
   | _,_=>none
theorem Et (o:bM):kV o.enc=some o:=rfl
theorem lK:∀l:List bM,lu (l.map bM.enc)=some l
 | []=>rfl
 | o::r=>by
   show (match kV o.enc,lu (r.map bM.enc) with | some o,some os=>some (o::os) | _,_=>none)=_;rw[Et,lK r]
theorem jF {v:AV} {o:bM} (h:kV v=some o):v=o.enc:=by
 unfold kV at h;split at h
 ·cases h;rfl
 ·cases h
theorem mP:∀{vs:List AV} {l:List bM},lu vs=some l→vs=l.map bM.enc
 | [],l,h=>by cases h;rfl
 | v::r,l,h=>by
   unfold lu at h;split at h
   ·rename_i o os h1 h2;cases h;rw[jF h1,mP h2];rfl
   ·cases h
theorem gn:∀l:List bM,AV.ai (l.map bM.enc)=0
 | []=>rfl
 | o::r=>by simp[AV.ai,gn r,bM.enc,bM.cells,AV.refs]
theorem Ht (l:List bM):∀x ∈ l.map bM.enc,xI 3 x:=by
 intro x hx;obtain⟨o,_,rfl⟩:=List.mem_map.1 hx;exact⟨rfl,rfl,(fun h=>by cases h),fun _=>rfl,rfl⟩
def lX (b:List UInt8):Bool:=b==[102,121]||b==[102,120]
def oL (b:List UInt8):Bool:=b==[120,102,120]||b==[120,102,121]||b==[121,102,120]
def oh:aR:=⟨106,fun | [v]=>(kV v).map fun o=>.bool (lX o.k) | _=>none⟩
theorem fG:oh.f=106:=(rfl)
theorem pA (a b:List UInt8) (l:Int):oh.S [.agg [.str a,.str b,.int .i64 l]]=some (.bool (lX b)):=(rfl)
theorem tB:bC Tryz.prog oh:=fun args v hv=>by
 unfold oh at hv ⊢;dsimp only at hv ⊢;split at hv
 ·rename_i x;obtain⟨o,ho,rfl⟩:=Option.map_eq_some_iff.1 hv;rw[jF ho];refine ct (n:=5) (h':=h0) (b8 (ss:=[]) (by simp)) ?_ rfl (by simp[AV.ai,AV.refs,bM.enc,bM.cells]);obtain⟨a,b,l⟩:=o;cases e1:b==[102,121]<;>cases e2:b==[102,120]<;>simp[PC,LX,lX,bM.enc,bM.cells,e1,e2]
 ·cases hv
def od:aR:=⟨158,fun | [v]=>(kV v).map fun o=>.bool (oL o.k) | _=>none⟩
theorem gP:od.f=158:=(rfl)
theorem BS (a b:List UInt8) (l:Int):od.S [.agg [.str a,.str b,.int .i64 l]]=some (.bool (oL b)):=(rfl)
theorem BQ:bC Tryz.prog od:=fun args v hv=>by
 unfold od at hv ⊢;dsimp only at hv ⊢;split at hv
 ·rename_i x;obtain⟨o,ho,rfl⟩:=Option.map_eq_some_iff.1 hv;rw[jF ho];refine ct (n:=5) (h':=h0) (b8 (ss:=[]) (by simp)) ?_ rfl (by simp[AV.ai,AV.refs,bM.enc,bM.cells]);obtain⟨a,b,l⟩:=o;cases e1:b==[120,102,120]<;>cases e2:b==[120,102,121]<;>cases e3:b==[121,102,120]<;>simp[N9,Ms,oL,bM.enc,bM.cells,e1,e2,e3]
 ·cases hv
def n7 (a b:List UInt8) (l:Int):Bool:=
 if a==[44] then b==[120,102,121]&&decide (l=1000)
 else if a==[] then false else if decide (64 < a.length) then false else if a==[124] then false else if a==[91,93] then false else if a==[123,125] then false
 else (oL b||lX b)&&decide (1≤l)&&decide (l≤1200)
def C7:aR:=⟨118,fun | [v]=>(kV v).map fun o=>.bool (n7 o.n o.k o.l) | _=>none⟩
theorem qG:C7.f=118:=(rfl)
theorem M0 (a b:List UInt8) (l:Int):C7.S [.agg [.str a,.str b,.int .i64 l]]=some (.bool (n7 a b l)):=(rfl)
theorem Np:bC Tryz.prog C7:=fun args v hv=>by
 unfold C7 at hv ⊢;dsimp only at hv ⊢;split at hv
 ·rename_i x;obtain⟨o,ho,rfl⟩:=Option.map_eq_some_iff.1 hv;rw[jF ho];refine ct (n:=20) (h':=h0) (b8 (ss:=[oh,od]) (by simp[tB,BQ])) ?_ rfl (by simp[AV.ai,AV.refs,bM.enc,bM.cells]);obtain⟨a,b,l⟩:=o;have hA:=pA a b l;have hB:=BS a b l
  have hl:decide ((64:Int) < (a.length:Int))=decide (64 < a.length):=by
   congr 1;exact propext ⟨fun h=>by omega,fun h=>by omega⟩
  cases e1:a==[44] with
  | true=>cases e2:b==[120,102,121]<;>simp[fG,gP,qm,xK,n7,bM.enc,bM.cells,e1,e2]
  | false=>
  cases e2:a==[] with
  | true=>simp[fG,gP,qm,xK,n7,bM.enc,bM.cells,e1,e2]
  | false=>
  cases e3:decide (64 < a.length) with
  | true=>simp[fG,gP,qm,xK,n7,bM.enc,bM.cells,e1,e2,e3,hl]
  | false=>
  cases e4:a==[124] with
  | true=>simp[fG,gP,qm,xK,n7,bM.enc,bM.cells,e1,e2,e3,hl,e4,Ab,zB,c157,DJ,sx,sB,aC]
  | false=>
  cases e5:a==[91,93] with
  | true=>simp[fG,gP,qm,xK,n7,bM.enc,bM.cells,e1,e2,e3,hl,e4,e5,Ab,zB,c157,DJ,sx,sB,aC,IntKind.wrap,IntKind.signed,IntKind.bits]
  | false=>
  cases e6:a==[123,125] with
  | true=>simp[fG,gP,qm,xK,n7,bM.enc,bM.cells,e1,e2,e3,hl,e4,e5,e6,Ab,zB,c157,DJ,sx,sB,aC,IntKind.wrap,IntKind.signed,IntKind.bits]
  | false=>
  cases e7:oL b<;>cases e8:lX b<;>cases e9:decide (1≤l)<;>simp only[e7,e8] at hA hB<;>
   simp[fG,gP,qm,xK,n7,bM.enc,bM.cells,e1,e2,e3,hl,e4,e5,e6,e7,e8,e9,hA,hB,fG,gP,Ab,zB,c157,DJ,sx,sB,aC,IntKind.wrap,IntKind.signed,IntKind.bits]
 ·cases hv
def j8 {α:Type} (p:α→Bool):List α→Option Nat
 | []=>none
 | x::r=>if p x then some 0 else (j8 p r).map (·+1)
theorem vU {α:Type} {p:α→Bool}:∀{l:List α} {i:Nat},j8 p l=some i→i < l.length
 | [],i,h=>by cases h
 | x::r,i,h=>by
   simp only[j8] at h;split at h
   ·cases h;simp
   ·obtain⟨j,hj,rfl⟩:=Option.map_eq_some_iff.1 h;have:=vU hj;simp;omega
def p9 (a b:bM):Bool:=a.n==b.n&&lX a.k==lX b.k
def qL:aR:=⟨117,fun | [v,w]=>(match kV v,kV w with | some a,some b=>some (.bool (p9 a b)) | _,_=>none) | _=>none⟩
theorem lg:qL.f=117:=(rfl)
theorem GB (a b:List UInt8) (l:Int) (a' b':List UInt8) (l':Int):qL.S [.agg [.str a,.str b,.int .i64 l],.agg [.str a',.str b',.int .i64 l']]=some (.bool (p9 ⟨a,b,l⟩ ⟨a',b',l'⟩)):=(rfl)
theorem GR:bC Tryz.prog qL:=fun args v hv=>by
 unfold qL at hv ⊢;dsimp only at hv ⊢;split at hv
 ·rename_i x y;split at hv
  ·rename_i o p h1 h2;cases hv;rw[jF h1,jF h2];refine ct (n:=5) (h':=h0) (b8 (ss:=[oh]) (by simp[tB])) ?_ rfl (by simp[AV.ai,AV.refs,bM.enc,bM.cells]);obtain⟨a,b,l⟩:=o;obtain⟨a',b',l'⟩:=p;have hA:=pA a b l;have hB:=pA a' b' l';cases e1:a==a'<;>simp[PH,c117,bM.enc,bM.cells,p9,e1,hA,hB,fG]
  ·cases hv
 ·cases hv
theorem x9 (C:Nat→List AV→aa→Option (AV×aa)) (n:Nat) (l:List bM) (g:Nat) (caps:List AV) (hn:Nat) (os:List bf) (p:bM→Bool) (hcap:AV.ai caps≤hn) (hl:l.length < 4611686018427387904)
 (hg:∀o ∈ l,C g (.agg [.str o.n,.str o.k,.int .i64 o.l]::caps) ⟨hn,os,hn,hn⟩=some (.bool (p o),⟨hn,os,hn,hn⟩)):∀post pre m,l=pre++post→post.length < m→
 cM (aT C n oR) lD hn m (Mk (.sl (l.map bM.enc)) (.fn g caps) (.int .i64 l.length) (.int .i64 pre.length)) ⟨hn,os,hn,hn⟩=
  match j8 p post with
  | some i=>some (.ret,FM 19 [(4,.int .i64 (pre.length+i:Nat))],⟨hn,os,hn,hn⟩)
  | none=>some (.exit 0,FM 19 [],⟨hn,os,hn,hn⟩)
 | [],pre,m+1,e,_=>by
   subst e;have h5:AV.ai (pre.map bM.enc)=0:=gn _;simp[j8,aC,oR,h5]
 | o::post,pre,m+1,e,hm=>by
   have ho:=hg o (by simp[e]);have ih:=x9 C n l g caps hn os p hcap hl hg post (pre++[o]) m (by simp[e]) (by rw[List.length_cons] at hm;omega);have h1:l[pre.length]? =some o:=by rw[e];simp
   have h3:IntKind.i64.wrap ((pre.length:Int)+1)=(pre.length:Int)+1:=by
    rw[ue (by rw[e] at hl;simp at hl;omega)];simp
   have h4:o.enc=.agg [.str o.n,.str o.k,.int .i64 o.l]:=rfl;have h5:AV.ai (l.map bM.enc)=0:=gn l;have h6:((pre.length:Int) < (l.length:Int))=True:=eq_true (by rw[e,List.length_append,List.length_cons];omega);simp only[List.length_append,List.length_cons,List.length_nil,Nat.zero_add,Int.natCast_add,Int.natCast_one] at ih;rw[aC]
   cases hp:p o with
   | true=>
     rw[hp] at ho;simp[j8,oR,lD,ho,h1,h3,h4,h5,h6,hp,hcap]
   | false=>
     rw[hp] at ho;simp[j8,oR,lD,ho,h1,h3,h4,h5,h6,hp,hcap];refine Eq.trans ih ?_
     cases j8 p post with
     | none=>rfl
     | some i=>
       show some (Ex.ret,FM 19 [(4,AV.int .i64 ((pre.length+1+i:Nat):Int))],_)=some (Ex.ret,FM 19 [(4,AV.int .i64 ((pre.length+(i+1):Nat):Int))],_);rw[show pre.length+(i+1)=pre.length+1+i by omega]
def Bn:Option Nat→Int
 | some i=>i
 | none=>-1
theorem pQ (ss:List aR) (n:Nat) (l:List bM) (g:Nat) (caps:List AV) (hn:Nat) (os:List bf) (wl md:Nat) (p:bM→Bool) (hcap:AV.ai caps≤hn) (hl:l.length < 4611686018427387904) (hm:l.length < n)
 (hg:∀o ∈ l,au (dP ss) n g (.agg [.str o.n,.str o.k,.int .i64 o.l]::caps) ⟨hn,os,hn,hn⟩=some (.bool (p o),⟨hn,os,hn,hn⟩)):
 eo ss n 104 [.sl (l.map bM.enc),.fn g caps] ⟨hn,os,wl,md⟩=some (.int .i64 (Bn (j8 p l)),⟨hn,os,wl,md⟩):=by
 have h:=x9 (au (dP ss) n) n l g caps hn os p hcap hl hg l [] n rfl hm;simp only[List.length_nil,lD,Int.natCast_zero] at h;have h5:AV.ai (l.map bM.enc)=0:=gn l
 cases hf:j8 p l with
 | none=>
   rw[hf] at h;simp[CV,H0,lD,h5,hcap,h,Bn]
 | some i=>
   rw[hf] at h;simp only[Nat.zero_add] at h;simp[CV,H0,lD,h5,hcap,h,Bn]
def ow:List bM→List bM→Bool
 | _,[]=>true
 | pre,o::post=>if !n7 o.n o.k o.l then false else if (j8 (fun x=>p9 x o) pre).isSome then false else ow (pre++[o]) post
def iJ (l:List bM):Bool:=decide (l.length≤128)&&ow [] l
theorem B6 (l:List bM) (n:Nat) (hl:l.length < 4611686018427387904) (hn:l.length < n):∀post pre m,l=pre++post→post.length < m→
 ∃md,ju 1 0 (cM (aT (au (dP [C7,qL]) (n+10)) (n+10) qP) mU 1 m (Jt (.ptr 0 0) (.sl (l.map bM.enc)) (.int .i64 l.length) (.int .i64 pre.length)) ⟨1,[.row [.sl (l.map bM.enc)]],1,0⟩)=
   some (if ow pre post then .exit 0 else .ret,if ow pre post then FM 31 [] else FM 31 [(2,.bool false)],⟨1,[.row [.sl (l.map bM.enc)]],0,md⟩)
 | [],pre,m+1,e,_=>by
   subst e;exact⟨0,by simp[ow,aC,qP]⟩
 | o::post,pre,m+1,e,hm=>by
   obtain⟨md,ih⟩:=B6 l n hl hn post (pre++[o]) m (by simp[e]) (by rw[List.length_cons] at hm;omega);refine⟨if !n7 o.n o.k o.l then 0 else if (j8 (fun x=>p9 x o) pre).isSome then 0 else md,?_⟩;have h1:l[pre.length]? =some o:=by rw[e];simp
   have h3:IntKind.i64.wrap ((pre.length:Int)+1)=(pre.length:Int)+1:=by
    rw[ue (by rw[e] at hl;simp at hl;omega)];simp
   have h4:o.enc=.agg [.str o.n,.str o.k,.int .i64 o.l]:=rfl;have h5:AV.ai (l.map bM.enc)=0:=gn l;have h6:((pre.length:Int) < (l.length:Int))=True:=eq_true (by rw[e,List.length_append,List.length_cons];omega);have h7:l.take pre.length=pre:=by rw[e];simp
   have h8:=BW (Ht l);have h9:pre.length≤l.length:=by rw[e];simp
   have hM:=M0 o.n o.k o.l
   have hf:=pQ [C7,qL] (n+8) pre 116 [.ptr 1 0] 2 [.row [.str o.n,.str o.k,.int .i64 o.l],.row [.sl (l.map bM.enc)]] 2 2 (fun x=>p9 x o) (by simp[AV.ai,AV.refs]) (by omega) (by omega)
    (fun x hx=>by
     have hA:=GB x.n x.k x.l o.n o.k o.l;simp[Qb,c116,hA,lg,qG])
   simp only[List.length_append,List.length_cons,List.length_nil,Nat.zero_add,Int.natCast_add,Int.natCast_one] at ih;rw[aC]
   cases hm:n7 o.n o.k o.l with
   | false=>
     rw[hm] at hM;simp[ow,qP,mU,h1,h3,h4,h5,h6,hm,hM,qG,lg]
   | true=>
     rw[hm] at hM
     cases hs:j8 (fun x=>p9 x o) pre with
     | none=>
       rw[hs] at hf;simp[ow,qP,mU,h1,h3,h4,h5,h6,hm,hM,hs,h8,h9,h7,hf,Bn,qG,lg,fP,sliceB,Is,c119,←List.map_take];exact ih
     | some i=>
       rw[hs] at hf;simp[ow,qP,mU,h1,h3,h4,h5,h6,hm,hM,hs,h8,h9,h7,hf,Bn,qG,lg,fP,sliceB,Is,c119,←List.map_take]
def mR:aR:=⟨70,fun | [.agg [.sl xs]]=>(match lu xs with | some l=>if l.length < 4611686018427387904 then some (.bool (iJ l)) else none | none=>none) | _=>none⟩
theorem pd:mR.f=70:=(rfl)
theorem wI (l:List bM) (h:l.length < 4611686018427387904):mR.S [.agg [.sl (l.map bM.enc)]]=some (.bool (iJ l)):=by
 simp only[mR,lK,if_pos h]
theorem wC:bC Tryz.prog mR:=fun args v hv=>by
 unfold mR at hv ⊢;dsimp only at hv ⊢;split at hv
 ·rename_i xs;split at hv
  ·rename_i l hd;split at hv
   ·rename_i hl;cases hv;rw[mP hd];refine ct (n:=l.length+12) (h':=h0) (b8 (ss:=[C7,qL]) (by simp[Np,GR])) ?_ rfl (by simp[AV.ai,AV.refs,gn]);have h5:AV.ai (l.map bM.enc)=0:=gn l;by_cases h:l.length≤128
    ·obtain⟨md,e⟩:=B6 l (l.length+1) hl (by omega) l [] (l.length+11) rfl (by omega);simp only[List.length_nil,mU,Jt,Int.natCast_zero] at e;have hd:((128:Int) < (l.length:Int))=False:=eq_false (by omega)
     cases hg:ow [] l with
     | true=>
       rw[hg] at e;simp only[if_true] at e;simp[FN,c70,mU,h5,e,iJ,h,hd,hg,qG,lg]
     | false=>
       rw[hg] at e;simp only[Bool.false_eq_true,if_false] at e;simp[FN,c70,mU,h5,e,iJ,h,hd,hg,qG,lg]
    ·have hd:((128:Int) < (l.length:Int))=True:=eq_true (by omega);simp[FN,c70,iJ,h,hd,qG,lg]
   ·cases hv
  ·cases hv
 ·cases hv
def gj:bM:=⟨[],[],0⟩
def bZ (l:List bM) (name:List UInt8) (ahead:Bool):bM×Bool:=
 match j8 (fun o=>o.n==name&&lX o.k==ahead) l with
 | none=>(gj,false)
 | some i=>if iJ l then (l.getD i gj,true) else (gj,false)
def Ff:aR:=⟨63,fun | [.agg [.sl xs],.str s,.bool b]=>(match lu xs with | some l=>if l.length < 4611686018427387904 then some (.tuple [(bZ l s b).1.enc,.bool (bZ l s b).2]) else none | none=>none) | _=>none⟩
theorem Kz (l:List bM) (s:List UInt8) (b:Bool) (h:l.length < 4611686018427387904):Ff.S [.agg [.sl (l.map bM.enc)],.str s,.bool b]=some (.tuple [(bZ l s b).1.enc,.bool (bZ l s b).2]):=by
 simp only[Ff,lK,if_pos h]
theorem KK:bC Tryz.prog Ff:=fun args v hv=>by
 unfold Ff at hv ⊢;dsimp only at hv ⊢;split at hv
 ·rename_i xs s b;split at hv
  ·rename_i l hd;split at hv
   ·rename_i hl;cases hv;rw[mP hd];refine ct (n:=l.length+12) (h':=h0) (b8 (ss:=[oh,mR]) (by simp[tB,wC])) ?_ (by simp[AV.refs,AV.ai,bM.enc,bM.cells]) (by simp[AV.ai,AV.refs,gn]);have h5:AV.ai (l.map bM.enc)=0:=gn l
    have hf:=pQ [oh,mR] (l.length+10) l 105 [.ptr 1 0,.ptr 2 0] 4 [.row [.str [],.str [],.int .i64 0],.row [.bool b],.row [.str s],.row [.sl (l.map bM.enc)]] 0 0 (fun o=>o.n==s&&lX o.k==b) (by simp[AV.ai,AV.refs]) hl (by omega)
     (fun x hx=>by
      have hA:=pA x.n x.k x.l;cases e1:x.n==s<;>simp[Om,c105,e1,hA,fG,pd])
    have hg:=wI l hl
    cases hs:j8 (fun o=>o.n==s&&lX o.k==b) l with
    | none=>
      rw[hs] at hf;simp[Fz,QA,hf,bZ,hs,bM.enc,bM.cells,gj,Bn,fG,pd]
    | some i=>
      rw[hs] at hf;have hi:=vU hs;have h1:l[i]? =some l[i]:=List.getElem?_eq_getElem hi;have h4:l[i].enc=.agg [.str l[i].n,.str l[i].k,.int .i64 l[i].l]:=rfl;have hne:((i:Int) < 0)=False:=eq_false (by omega);have hgd:l.getD i gj=l[i]:=by simp[List.getD,h1]
      cases hgk:iJ l with
      | false=>
        rw[hgk] at hg;simp[Fz,QA,hf,bZ,hs,bM.enc,bM.cells,gj,hg,hgk,hne,Bn,fG,pd]
      | true=>
        rw[hgk] at hg;simp[Fz,QA,hf,bZ,hs,hg,hgk,h1,h4,hne,hgd,Bn,fG,pd]
   ·cases hv
  ·cases hv
 ·cases hv
def bD:AV→Option (List bM)
 | .aw=>some []
 | .sl xs=>lu xs
 | _=>none
theorem jQ {x:AV} {l:List bM} (h:bD x=some l):(x=.aw∧l=[])∨x=.sl (l.map bM.enc):=by
 cases x<;>simp[bD] at h
 ·exact .inl ⟨rfl,h⟩
 ·exact .inr (by rw[mP h])
theorem ot {x:AV} {l:List bM} (h:bD x=some l):x.refs=0:=by
 rcases jQ h with⟨rfl,_⟩ | rfl
 ·rfl
 ·simp[AV.refs,gn]
theorem tX (l:List bM):bD (.sl (l.map bM.enc))=some l:=lK l
def Ew:aR:=⟨70,fun | [.agg [.aw]]=>some (.bool true) | _=>none⟩
theorem Gi:Ew.S [.agg [.aw]]=some (.bool true):=(rfl)
theorem GJ:bC Tryz.prog Ew:=fun args v hv=>by
 unfold Ew at hv ⊢;dsimp only at hv ⊢;split at hv
 ·cases hv;refine ct (n:=10) (h':=h0) (b8 (ss:=[]) (by simp)) ?_ rfl rfl;simp[FN,c70,mU,qP,aC]
 ·cases hv
def DL:aR:=⟨63,fun | [.agg [.aw],.str _,.bool _]=>some (.tuple [gj.enc,.bool false]) | _=>none⟩
theorem Hj (s:List UInt8) (b:Bool):DL.S [.agg [.aw],.str s,.bool b]=some (.tuple [gj.enc,.bool false]):=(rfl)
theorem Hl:bC Tryz.prog DL:=fun args v hv=>by
 unfold DL at hv ⊢;dsimp only at hv ⊢;split at hv
 ·cases hv;refine ct (n:=10) (h':=h0) (b8 (ss:=[]) (by simp)) ?_ rfl (by simp[AV.ai,AV.refs]);simp[Fz,QA,CV,H0,lD,oR,aC,gj,bM.enc,bM.cells]
 ·cases hv
def o4:aR:=⟨70,fun | [.agg [x]]=>(match bD x with | some l=>if l.length < 4611686018427387904 then some (.bool (iJ l)) else none | none=>none) | _=>none⟩
theorem gm:o4.f=70:=(rfl)
theorem Dc {x:AV} {l:List bM} (hx:bD x=some l) (h:l.length < 4611686018427387904):o4.S [.agg [x]]=some (.bool (iJ l)):=by
 simp only[o4,hx,if_pos h]
theorem DU:bC Tryz.prog o4:=fun args v hv=>by
 unfold o4 at hv ⊢;dsimp only at hv ⊢;split at hv
 ·split at hv
  ·rename_i l hd;split at hv
   ·rename_i hl;cases hv;rcases jQ hd with⟨rfl,rfl⟩ | rfl
    ·exact GJ _ _ Gi
    ·exact wC _ _ (wI l hl)
   ·cases hv
  ·cases hv
 ·cases hv
def qe:aR:=⟨63,fun | [.agg [x],.str s,.bool b]=>(match bD x with | some l=>if l.length < 4611686018427387904 then some (.tuple [(bZ l s b).1.enc,.bool (bZ l s b).2]) else none | none=>none) | _=>none⟩
theorem sv:qe.f=63:=(rfl)
theorem yU {x:AV} {l:List bM} (hx:bD x=some l) (s:List UInt8) (b:Bool) (h:l.length < 4611686018427387904):qe.S [.agg [x],.str s,.bool b]=some (.tuple [(bZ l s b).1.enc,.bool (bZ l s b).2]):=by
 simp only[qe,hx,if_pos h]
theorem yy:bC Tryz.prog qe:=fun args v hv=>by
 unfold qe at hv ⊢;dsimp only at hv ⊢;split at hv
 ·split at hv
  ·rename_i l hd;split at hv
   ·rename_i hl;cases hv;rcases jQ hd with⟨rfl,rfl⟩ | rfl
    ·exact Hl _ _ (Hj _ _)
    ·exact KK _ _ (Kz l _ _ hl)
   ·cases hv
  ·cases hv
 ·cases hv
def FE:aR:=⟨29,fun | [.agg [x],.str s]=>(match bD x with | some l=>if l.length < 4611686018427387904 then some (.tuple [(bZ l s false).1.enc,.bool (bZ l s false).2]) else none | none=>none) | _=>none⟩
theorem eJ:FE.f=29:=(rfl)
theorem zr {x:AV} {l:List bM} (hx:bD x=some l) (s:List UInt8) (h:l.length < 4611686018427387904):FE.S [.agg [x],.str s]=some (.tuple [(bZ l s false).1.enc,.bool (bZ l s false).2]):=by
 simp only[FE,hx,if_pos h]
theorem CD:bC Tryz.prog FE:=fun args v hv=>by
 unfold FE at hv ⊢;dsimp only at hv ⊢;split at hv
 ·rename_i x s;split at hv
  ·rename_i l hd;split at hv
   ·rename_i hl;cases hv;have hr:=ot hd;refine ct (n:=6) (h':=h0) (b8 (ss:=[qe]) (by simp[yy])) ?_ (by simp[AV.refs,AV.ai,bM.enc,bM.cells]) (by simp[AV.ai,AV.refs,hr]);have q:=yU hd s false hl;simp only[bM.enc,bM.cells] at q ⊢;rcases jQ hd with⟨rfl,rfl⟩ | rfl
    ·simp[NI,Sm,sv,q]
    ·simp[NI,Sm,sv,q]
   ·cases hv
  ·cases hv
 ·cases hv
def nI:aR:=⟨30,fun | [.agg [x],.str s]=>(match bD x with | some l=>if l.length < 4611686018427387904 then some (.tuple [(bZ l s true).1.enc,.bool (bZ l s true).2]) else none | none=>none) | _=>none⟩
theorem eB:nI.f=30:=(rfl)
theorem ze {x:AV} {l:List bM} (hx:bD x=some l) (s:List UInt8) (h:l.length < 4611686018427387904):nI.S [.agg [x],.str s]=some (.tuple [(bZ l s true).1.enc,.bool (bZ l s true).2]):=by
 simp only[nI,hx,if_pos h]
theorem Fc:bC Tryz.prog nI:=fun args v hv=>by
 unfold nI at hv ⊢;dsimp only at hv ⊢;split at hv
 ·rename_i x s;split at hv
  ·rename_i l hd;split at hv
   ·rename_i hl;cases hv;have hr:=ot hd;refine ct (n:=6) (h':=h0) (b8 (ss:=[qe]) (by simp[yy])) ?_ (by simp[AV.refs,AV.ai,bM.enc,bM.cells]) (by simp[AV.ai,AV.refs,hr]);have q:=yU hd s true hl;simp only[bM.enc,bM.cells] at q ⊢;rcases jQ hd with⟨rfl,rfl⟩ | rfl
    ·simp[NJ,Sq,sv,q]
    ·simp[NJ,Sq,sv,q]
   ·cases hv
  ·cases hv
 ·cases hv
def a7 (o:bM):Int×Int:=
 if o.k=[120,102,120] then (o.l - 1,o.l - 1) else if o.k=[120,102,121] then (o.l - 1,o.l) else if o.k=[121,102,120] then (o.l,o.l - 1)
 else if o.k=[102,121] then (0,o.l) else if o.k=[102,120] then (0,o.l - 1) else (0,0)
def tJ:aR:=⟨122,fun | [v]=>(match kV v with | some o=>if 0≤o.l∧o.l≤1200 then some (.tuple [.int .i64 (a7 o).1,.int .i64 (a7 o).2]) else none | none=>none) | _=>none⟩
theorem bJ:tJ.f=122:=(rfl)
theorem jR (o:bM) (h:0≤o.l∧o.l≤1200):tJ.S [.agg [.str o.n,.str o.k,.int .i64 o.l]]=some (.tuple [.int .i64 (a7 o).1,.int .i64 (a7 o).2]):=if_pos h
theorem yO:bC Tryz.prog tJ:=fun args v hv=>by
 unfold tJ at hv ⊢;dsimp only at hv ⊢;split at hv
 ·rename_i x;split at hv
  ·rename_i o hd;split at hv
   ·rename_i hl;cases hv;rw[jF hd];refine ct (n:=6) (h':=h0) (b8 (ss:=[]) (by simp)) ?_ (by simp[AV.refs,AV.ai]) (by simp[AV.ai,AV.refs,bM.enc,bM.cells]);have w:IntKind.i64.wrap (o.l - 1)=o.l - 1:=wrap_i64 (by omega) (by omega);obtain⟨n,k,l⟩:=o;dsimp only at w;have hb:∀a b:List UInt8,a≠b→(a==b)=false:=fun a b h=>by simpa using h
    unfold a7;dsimp only;by_cases h1:k=[120,102,120]
    ·subst h1;simp[tw,y8,bM.enc,bM.cells,w]
    rw[if_neg h1];have e1:=hb _ _ h1;by_cases h2:k=[120,102,121]
    ·subst h2;simp[tw,y8,bM.enc,bM.cells,w]
    rw[if_neg h2];have e2:=hb _ _ h2;by_cases h3:k=[121,102,120]
    ·subst h3;simp[tw,y8,bM.enc,bM.cells,w]
    rw[if_neg h3];have e3:=hb _ _ h3;by_cases h4:k=[102,121]
    ·subst h4;simp[tw,y8,bM.enc,bM.cells,w]
    rw[if_neg h4];have e4:=hb _ _ h4;by_cases h5:k=[102,120]
    ·subst h5;simp[tw,y8,bM.enc,bM.cells,w]
    rw[if_neg h5];have e5:=hb _ _ h5;simp[tw,y8,bM.enc,bM.cells,w,h1,h2,h3,h4,h5,e1,e2,e3,e4,e5]
   ·cases hv
  ·cases hv
 ·cases hv
theorem LV {a b:List UInt8} {l:Int} (h:n7 a b l=true):1≤l∧l≤1200:=by
 unfold n7 at h;split at h
 ·simp only[Bool.and_eq_true,decide_eq_true_eq] at h;omega
 ·simp at h;omega
theorem yg:∀(post pre:List bM),ow pre post=true→∀o ∈ post,n7 o.n o.k o.l=true
 | [],_,_,o,h=>by simp at h
 | x::r,pre,hg,o,h=>by
   unfold ow at hg
   cases hm:n7 x.n x.k x.l with
   | false=>rw[hm] at hg;simp at hg
   | true=>
     rw[hm] at hg;simp only[Bool.not_true,Bool.false_eq_true,if_false] at hg;split at hg
     ·cases hg
     ·rcases List.mem_cons.1 h with rfl | h
      ·exact hm
      ·exact yg r _ hg o h
theorem Io {l:List bM} (h:iJ l=true):∀o ∈ l,n7 o.n o.k o.l=true:=by
 unfold iJ at h;rw[Bool.and_eq_true] at h;exact yg l [] h.2
theorem ua (l:List bM) (s:List UInt8) (b:Bool):0≤(bZ l s b).1.l∧(bZ l s b).1.l≤1200:=by
 unfold bZ;split
 ·exact⟨Int.le_refl 0,by simp[gj]⟩
 ·rename_i i hi;split
  ·rename_i hg;have hlt:=vU hi;have hd:l.getD i gj=l[i]:=by simp[List.getD,List.getElem?_eq_getElem hlt]
   dsimp only;rw[hd];have:=LV (Io hg l[i] (List.getElem_mem hlt));omega
  ·exact⟨Int.le_refl 0,by simp[gj]⟩
structure eS where
 kind:Int
 text:List UInt8
 num:Int
 gS:Bool
 Nx:Bool
def FG:eS:=⟨0,[],0,false,false⟩
def M4 (t:Tok):List Tok→Bool
 | []=>false
 | u::_=>decide (u.at_=t.at_+1)
def iR:List Tok→List eS
 | []=>[]
 | t::r=>⟨t.kind,t.text,t.num,t.gS,M4 t r⟩::iR r
theorem fF:∀l,(iR l).length=l.length
 | []=>rfl
 | t::r=>by simp[iR,fF r]
theorem y7:∀(l:List Tok) (k:Nat),(iR l).drop k=iR (l.drop k)
 | [],k=>by simp[iR]
 | t::r,0=>rfl
 | t::r,k+1=>by
   show (iR r).drop k=iR (r.drop k);exact y7 r k
structure St where
 at_:Nat
 rest:List eS
 next:Nat
 names:List (List UInt8×Int)
def aH (st:St):eS:=st.rest.headD FG
def ax (st:St):St:=⟨st.at_+1,st.rest.tail,st.next,st.names⟩
def ey (x:eS):Bool:=decide (x.kind=1)||decide (x.kind=2)
def cP (T:List bM) (x:eS):bM×Bool:=if !ey x&&(!decide (x.kind=5)||!decide (x.text=[44])) then (gj,false) else bZ T x.text false
abbrev PR:=Tm×Int×Bool
def sW:Tm:=.nl 0 0 []
def hP (s:List UInt8):Tm:=.nl 2 0 s
def a8 (s:List UInt8) (st:St):Bool×St:=if (aH st).kind=5∧(aH st).text=s then (true,ax st) else (false,st)
def nF (s:List UInt8):List (List UInt8×Int)→Option Int
 | []=>none
 | p::r=>if p.1=s then some p.2 else nF s r
def iS (s:List UInt8) (st:St):Tm×St:=match nF s st.names with
 | some n=>(.nl 0 n [],st)
 | none=>(.nl 0 st.next [],⟨st.at_,st.rest,st.next+1,if s=[95] then st.names else st.names++[(s,(st.next:Int))]⟩)
def fC (T:List bM) (st:St):Bool:=
 if (aH st).kind=0∨(aH st).kind=6 then false
 else if (aH st).kind=5 then decide ((aH st).text=[40])||decide ((aH st).text=[91])||decide ((aH st).text=[123])
 else if !ey (aH st)||(aH st).gS then true
 else !(bZ T (aH st).text false).2||(bZ T (aH st).text true).2
section
variable (rec:Int→St→PR×St)
def br:Nat→List Tm→St→(List Tm×Bool)×St
 | 0,acc,st=>((acc,false),st)
 | M+1,acc,st=>
   if (rec 999 st).1.2.2 then
    (if (a8 [44] (rec 999 st).2).1 then br M (acc++[(rec 999 st).1.1]) (a8 [44] (rec 999 st).2).2
     else ((acc++[(rec 999 st).1.1],true),(rec 999 st).2))
   else ((acc,false),(rec 999 st).2)
def gA (l:List Tm) (st:St):(Tm×Bool)×St:=
 if (a8 [124] st).1 then
  (if (rec 999 (a8 [124] st).2).1.2.2 then ((dH l (rec 999 (a8 [124] st).2).1.1,(a8 [93] (rec 999 (a8 [124] st).2).2).1),(a8 [93] (rec 999 (a8 [124] st).2).2).2)
   else ((dH l (rec 999 (a8 [124] st).2).1.1,false),(rec 999 (a8 [124] st).2).2))
 else ((dH l (hP [91,93]),(a8 [93] st).1),(a8 [93] st).2)
def gd (M:Nat) (st:St):(Tm×Bool)×St:=
 if (br rec M [] st).1.2 then gA rec (br rec M [] st).1.1 (br rec M [] st).2
 else ((hP [91,93],false),(br rec M [] st).2)
def Im (T:List bM) (s:List UInt8):Int:=max (bZ T s false).1.l (bZ T s true).1.l
def b9 (T:List bM) (x:eS) (n:Int) (st:St):PR×St:=
 if x.kind=2 then ((hP x.text,0,true),st)
 else if (bZ T x.text true).2&&decide ((bZ T x.text true).1.l≤n)&&fC T st then
  ((cb x.text [(rec (a7 (bZ T x.text true).1).2 st).1.1],(bZ T x.text true).1.l,(rec (a7 (bZ T x.text true).1).2 st).1.2.2),(rec (a7 (bZ T x.text true).1).2 st).2)
 else ((hP x.text,Im T x.text,decide (Im T x.text≤n)),st)
def eH (c:List UInt8) (f:Tm→Tm) (st:St):PR×St:=
 if (rec 1200 st).1.2.2 then ((f (rec 1200 st).1.1,0,(a8 c (rec 1200 st).2).1),(a8 c (rec 1200 st).2).2)
 else ((f (rec 1200 st).1.1,0,false),(rec 1200 st).2)
def ix (M:Nat) (s:List UInt8) (st:St):PR×St:=
 if (br rec M [] st).1.2 then ((cb s (br rec M [] st).1.1,0,(a8 [41] (br rec M [] st).2).1),(a8 [41] (br rec M [] st).2).2)
 else ((cb s [],0,false),(br rec M [] st).2)
def dI (T:List bM) (M:Nat) (n:Int) (st:St):PR×St:=
 if (aH st).kind=4 then ((.nl 1 (aH st).num [],0,true),ax st)
 else if (aH st).kind=3 then (((iS (aH st).text (ax st)).1,0,true),(iS (aH st).text (ax st)).2)
 else if (aH st).kind=5∧(aH st).text=[40] then eH rec [41] (fun t=>t) (ax st)
 else if (aH st).kind=5∧(aH st).text=[91] then (((gd rec M (ax st)).1.1,0,(gd rec M (ax st)).1.2),(gd rec M (ax st)).2)
 else if (aH st).kind=5∧(aH st).text=[123] then eH rec [125] (fun t=>cb [123,125] [t]) (ax st)
 else if !ey (aH st) then ((sW,0,false),ax st)
 else if (aH st).gS then ix rec M (aH st).text (ax (ax st))
 else if (aH st).kind=1∧(aH st).text=[45]∧(aH (ax st)).kind=4∧(aH st).Nx=true then ((.nl 1 (-(aH (ax st)).num) [],0,true),ax (ax st))
 else b9 rec T (aH st) n (ax st)
def dQ (T:List bM):Nat→Int→PR→St→PR×St
 | 0,_,r,st=>(r,st)
 | M+1,n,r,st=>
   if !r.2.2 then (r,st)
   else if !(cP T (aH st)).2||decide (n < (cP T (aH st)).1.l)||decide ((a7 (cP T (aH st)).1).1 < r.2.1) then (r,st)
   else dQ T M n (cb (aH st).text [r.1,(rec (a7 (cP T (aH st)).1).2 (ax st)).1.1],(cP T (aH st)).1.l,(rec (a7 (cP T (aH st)).1).2 (ax st)).1.2.2) (rec (a7 (cP T (aH st)).1).2 (ax st)).2
end
def fu (T:List bM):Nat→Int→St→PR×St
 | 0,_,st=>((sW,0,false),st)
 | N+1,n,st=>dQ (fu T N) T (N+1) n (dI (fu T N) T (N+1) n st).1 (dI (fu T N) T (N+1) n st).2
theorem BF {st:St} (h:st.rest=[]):aH st=FG:=by simp[aH,h]
theorem cD (st:St):(ax st).rest.length=st.rest.length - 1:=by simp[ax]
theorem bH {st:St} (h:(aH st).kind≠0):0 < st.rest.length:=by
 cases hr:st.rest with
 | nil=>exact absurd (by rw[BF hr];rfl) h
 | cons x r=>simp
def mi (x:eS):Bool:=(decide (x.text.length≤64)||!ey x)&&(decide (0≤x.num)&&decide (x.num < 9223372036854775808))
def zV (l:List (List UInt8×Int)):Bool:=l.all fun p=>!decide (p.1=[95])
structure Lv (st st':St):Prop where
 Oj:∃k,st'.rest=st.rest.drop k
 nx:st.next≤st'.next
 nm:st'.names.length+st.next≤st.names.length+st'.next
 pre:∃q,st'.names=st.names++q
 GF:zV st.names=true→zV st'.names=true
 rg:(∀p ∈ st.names,0≤p.2∧p.2 < st.next)→∀p ∈ st'.names,0≤p.2∧p.2 < st'.next
structure Ok (st st':St):Prop where
 lv:Lv st st'
 pos:st'.rest.length < st.rest.length
 Rs:st'.at_+st'.rest.length=st.at_+st.rest.length
 SQ:st'.next+st'.rest.length≤st.next+st.rest.length
theorem Lv.refl (st:St):Lv st st:=⟨⟨0,rfl⟩,Nat.le_refl _,Nat.le_refl _,⟨[],by simp⟩,id,id⟩
theorem Lv.trans {a b c:St} (h:Lv a b) (g:Lv b c):Lv a c:=by
 obtain⟨k,hk⟩:=h.Oj;obtain⟨j,hj⟩:=g.Oj;obtain⟨p,hp⟩:=h.pre;obtain⟨q,hq⟩:=g.pre;have:=h.nx;have:=g.nx;have:=h.nm;have:=g.nm;exact⟨⟨k+j,by rw[hj,hk,List.drop_drop]⟩,by omega,by omega,⟨p++q,by rw[hq,hp,List.append_assoc]⟩,fun e=>g.GF (h.GF e),fun e=>g.rg (h.rg e)⟩
theorem Lv.len {a b:St} (h:Lv a b):b.rest.length≤a.rest.length:=by
 obtain⟨k,hk⟩:=h.Oj;rw[hk,List.length_drop];omega
theorem Lv.all {a b:St} (h:Lv a b) (p:eS→Bool) (ha:a.rest.all p=true):b.rest.all p=true:=by
 obtain⟨k,hk⟩:=h.Oj;rw[hk,List.all_eq_true];exact fun x hx=>List.all_eq_true.1 ha x (List.mem_of_mem_drop hx)
theorem gG (st:St):Lv st (ax st):=⟨⟨1,by simp[ax]⟩,Nat.le_refl _,Nat.le_refl _,⟨[],by simp[ax]⟩,id,id⟩
theorem jq {st:St} (h:0 < st.rest.length):Ok st (ax st):=by
 have:=cD st;refine⟨gG st,by omega,?_,?_⟩
 ·show st.at_+1+_=_;omega
 ·show st.next+_≤_
  omega
theorem Ok.trans {a b c:St} (h:Ok a b) (g:Ok b c):Ok a c:=by
 have:=h.pos;have:=g.pos;have:=h.Rs;have:=g.Rs;have:=h.SQ;have:=g.SQ;exact⟨h.lv.trans g.lv,by omega,by omega,by omega⟩
theorem iB (s:List UInt8) (st:St):Lv st (a8 s st).2:=by
 unfold a8;split
 ·exact gG st
 ·exact Lv.refl st
theorem ef {s:List UInt8} {st:St} (h:(a8 s st).1=true):Ok st (a8 s st).2:=by
 unfold a8 at h ⊢;split
 ·rename_i hc;exact jq (bH (by rw[hc.1];decide))
 ·rename_i hc;rw[if_neg hc] at h;cases h
theorem lH {s:List UInt8} {st:St} (h:(a8 s st).1=false):(a8 s st).2=st:=by
 unfold a8 at h ⊢;split
 ·rename_i hc;rw[if_pos hc] at h;cases h
 ·rfl
theorem CG (s:List UInt8) (st:St):Lv st (iS s st).2:=by
 unfold iS;split
 ·exact Lv.refl st
 ·refine⟨⟨0,rfl⟩,Nat.le_succ _,?_,?_,fun h=>?_,fun h p hp=>?_⟩
  ·dsimp only;split<;>simp<;>omega
  ·dsimp only;split
   ·exact⟨[],by simp⟩
   ·exact⟨_,rfl⟩
  ·dsimp only;split
   ·exact h
   ·rename_i hs;unfold zV at h ⊢;rw[List.all_append,h];simp[hs]
  ·dsimp only at hp ⊢;split at hp
   ·have:=h p hp;omega
   ·rcases List.mem_append.1 hp with hp | hp
    ·have:=h p hp;omega
    ·simp only[List.mem_singleton] at hp;subst hp;dsimp only;omega
theorem JX {s:List UInt8} {st:St} (h:0 < st.rest.length):Ok st (iS s (ax st)).2:=by
 have h1:=cD st;have hv:=CG s (ax st)
 have hr:(iS s (ax st)).2.rest=(ax st).rest∧(iS s (ax st)).2.at_=(ax st).at_∧(iS s (ax st)).2.next≤(ax st).next+1:=by
  unfold iS;split
  ·exact⟨rfl,rfl,Nat.le_succ _⟩
  ·exact⟨rfl,rfl,Nat.le_refl _⟩
 refine⟨(gG st).trans hv,by rw[hr.1];omega,?_,?_⟩
 ·rw[hr.1,hr.2.1];show st.at_+1+_=_;omega
 ·rw[hr.1];have:(ax st).next=st.next:=rfl
  omega
structure uA (rec:Int→St→PR×St):Prop where
 lv:∀n st,Lv st (rec n st).2
 ok:∀n st,(rec n st).1.2.2=true→Ok st (rec n st).2
section
variable {rec:Int→St→PR×St} (H:uA rec)
include H
theorem im:∀(M:Nat) (acc:List Tm) (st:St),Lv st (br rec M acc st).2∧((br rec M acc st).1.2=true→Ok st (br rec M acc st).2)
 | 0,acc,st=>⟨Lv.refl st,fun h=>by cases h⟩
 | M+1,acc,st=>by
   unfold br;by_cases h1:(rec 999 st).1.2.2=true
   ·rw[if_pos h1];by_cases h2:(a8 [44] (rec 999 st).2).1=true
    ·rw[if_pos h2];obtain⟨i1,i2⟩:=im M (acc++[(rec 999 st).1.1]) (a8 [44] (rec 999 st).2).2;exact⟨((H.lv 999 st).trans (iB _ _)).trans i1,fun h=>((H.ok 999 st h1).trans (ef h2)).trans (i2 h)⟩
    ·rw[if_neg h2];exact⟨H.lv 999 st,fun _=>H.ok 999 st h1⟩
   ·rw[if_neg h1];exact⟨H.lv 999 st,fun h=>by cases h⟩
theorem ER (l:List Tm) (st:St):Lv st (gA rec l st).2∧((gA rec l st).1.2=true→Ok st (gA rec l st).2):=by
 unfold gA;by_cases h1:(a8 [124] st).1=true
 ·rw[if_pos h1];by_cases h2:(rec 999 (a8 [124] st).2).1.2.2=true
  ·rw[if_pos h2];exact⟨((iB _ _).trans (H.lv _ _)).trans (iB _ _),fun h=>((ef h1).trans (H.ok _ _ h2)).trans (ef h)⟩
  ·rw[if_neg h2];exact⟨(iB _ _).trans (H.lv _ _),fun h=>by cases h⟩
 ·rw[if_neg h1];exact⟨iB _ _,fun h=>ef h⟩
theorem zh (M:Nat) (st:St):Lv st (gd rec M st).2∧((gd rec M st).1.2=true→Ok st (gd rec M st).2):=by
 obtain⟨i1,i2⟩:=im H M [] st;unfold gd;by_cases h1:(br rec M [] st).1.2=true
 ·rw[if_pos h1];obtain⟨j1,j2⟩:=ER H (br rec M [] st).1.1 (br rec M [] st).2;exact⟨i1.trans j1,fun h=>(i2 h1).trans (j2 h)⟩
 ·rw[if_neg h1];exact⟨i1,fun h=>by cases h⟩
theorem rj (c:List UInt8) (f:Tm→Tm) (st:St):Lv st (eH rec c f st).2∧((eH rec c f st).1.2.2=true→Ok st (eH rec c f st).2):=by
 unfold eH;by_cases h1:(rec 1200 st).1.2.2=true
 ·rw[if_pos h1];exact⟨(H.lv _ _).trans (iB _ _),fun h=>(H.ok _ _ h1).trans (ef h)⟩
 ·rw[if_neg h1];exact⟨H.lv _ _,fun h=>by cases h⟩
theorem zl (M:Nat) (s:List UInt8) (st:St):Lv st (ix rec M s st).2∧((ix rec M s st).1.2.2=true→Ok st (ix rec M s st).2):=by
 obtain⟨i1,i2⟩:=im H M [] st;unfold ix;by_cases h1:(br rec M [] st).1.2=true
 ·rw[if_pos h1];exact⟨i1.trans (iB _ _),fun h=>(i2 h1).trans (ef h)⟩
 ·rw[if_neg h1];exact⟨i1,fun h=>by cases h⟩
theorem mO (T:List bM) (M:Nat) (n:Int) (st:St):Lv st (dI rec T M n st).2∧((dI rec T M n st).1.2.2=true→Ok st (dI rec T M n st).2):=by
 unfold dI;by_cases k4:(aH st).kind=4
 ·rw[if_pos k4];exact⟨gG st,fun _=>jq (bH (by omega))⟩
 rw[if_neg k4];by_cases k3:(aH st).kind=3
 ·rw[if_pos k3];exact⟨(gG st).trans (CG _ _),fun _=>JX (bH (by omega))⟩
 rw[if_neg k3];by_cases c1:(aH st).kind=5∧(aH st).text=[40]
 ·rw[if_pos c1];obtain⟨i1,i2⟩:=rj H [41] (fun t=>t) (ax st);exact⟨(gG st).trans i1,fun h=>(jq (bH (by omega))).trans (i2 h)⟩
 rw[if_neg c1];by_cases c2:(aH st).kind=5∧(aH st).text=[91]
 ·rw[if_pos c2];obtain⟨i1,i2⟩:=zh H M (ax st);exact⟨(gG st).trans i1,fun h=>(jq (bH (by omega))).trans (i2 h)⟩
 rw[if_neg c2];by_cases c3:(aH st).kind=5∧(aH st).text=[123]
 ·rw[if_pos c3];obtain⟨i1,i2⟩:=rj H [125] (fun t=>cb [123,125] [t]) (ax st);exact⟨(gG st).trans i1,fun h=>(jq (bH (by omega))).trans (i2 h)⟩
 rw[if_neg c3];by_cases c4:(!ey (aH st))=true
 ·rw[if_pos c4];exact⟨gG st,fun h=>by cases h⟩
 rw[if_neg c4];have hk:(aH st).kind≠0:=fun h=>c4 (by unfold ey;rw[h];rfl)
 by_cases c5:(aH st).gS=true
 ·rw[if_pos c5];obtain⟨i1,i2⟩:=zl H M (aH st).text (ax (ax st));refine⟨((gG st).trans (gG _)).trans i1,fun h=>?_⟩;have j:=i2 h;have hp:=jq (bH hk)
  have:0 < (ax st).rest.length:=by
   have h1:=cD (ax st);have h2:=j.pos;omega
  exact (hp.trans (jq this)).trans j
 rw[if_neg c5];by_cases c6:(aH st).kind=1∧(aH st).text=[45]∧(aH (ax st)).kind=4∧(aH st).Nx=true
 ·rw[if_pos c6];exact⟨(gG st).trans (gG _),fun _=>(jq (bH hk)).trans (jq (bH (by omega)))⟩
 rw[if_neg c6];have ha:=jq (bH hk);unfold b9;by_cases d1:(aH st).kind=2
 ·rw[if_pos d1];exact⟨gG st,fun _=>ha⟩
 rw[if_neg d1];by_cases d2:((bZ T (aH st).text true).2&&decide ((bZ T (aH st).text true).1.l≤n)&&fC T (ax st))=true
 ·rw[if_pos d2];exact⟨(gG st).trans (H.lv _ _),fun h=>ha.trans (H.ok _ _ h)⟩
 ·rw[if_neg d2];exact⟨gG st,fun _=>ha⟩
theorem gY (T:List bM):∀(M:Nat) (n:Int) (r:PR) (st:St),Lv st (dQ rec T M n r st).2∧((dQ rec T M n r st).1.2.2=true→r.2.2=true∧(st=(dQ rec T M n r st).2∨Ok st (dQ rec T M n r st).2))
 | 0,n,r,st=>⟨Lv.refl st,fun h=>⟨h,.inl rfl⟩⟩
 | M+1,n,r,st=>by
   unfold dQ;by_cases h0:(!r.2.2)=true
   ·rw[if_pos h0];exact⟨Lv.refl st,fun h=>⟨h,.inl rfl⟩⟩
   rw[if_neg h0];by_cases h1:(!(cP T (aH st)).2||decide (n < (cP T (aH st)).1.l)||decide ((a7 (cP T (aH st)).1).1 < r.2.1))=true
   ·rw[if_pos h1];exact⟨Lv.refl st,fun h=>⟨h,.inl rfl⟩⟩
   rw[if_neg h1];obtain⟨i1,i2⟩:=gY T M n (cb (aH st).text [r.1,(rec (a7 (cP T (aH st)).1).2 (ax st)).1.1],(cP T (aH st)).1.l,(rec (a7 (cP T (aH st)).1).2 (ax st)).1.2.2) (rec (a7 (cP T (aH st)).1).2 (ax st)).2;refine⟨((gG st).trans (H.lv _ _)).trans i1,fun h=>⟨by simpa using h0,.inr ?_⟩⟩;obtain⟨j1,j2⟩:=i2 h
   have hk:(aH st).kind≠0:=fun h=>h1 (by
    have:(cP T (aH st)).2=false:=by
     unfold cP ey;rw[h];rfl
    rw[this];rfl)
   have a:=(jq (bH hk)).trans (H.ok _ _ j1);rcases j2 with j2 | j2
   ·rw[←j2];exact a
   ·exact a.trans j2
end
theorem mN (T:List bM):∀N,uA (fu T N)
 | 0=>⟨fun n st=>Lv.refl st,fun n st h=>by cases h⟩
 | N+1=>by
   have H:=mN T N;refine⟨fun n st=>?_,fun n st h=>?_⟩
   ·unfold fu;exact (mO H T (N+1) n st).1.trans (gY H T (N+1) n _ _).1
   ·unfold fu at h ⊢;obtain⟨j1,j2⟩:=(gY H T (N+1) n _ _).2 h;have a:=(mO H T (N+1) n st).2 j1;rcases j2 with j2 | j2
    ·rw[←j2];exact a
    ·exact a.trans j2
section
variable {b:UInt8} (hb:fA b=true)
include hb
theorem ft:b.toNat=32∨b.toNat=9∨b.toNat=10∨b.toNat=13:=by
 unfold fA at hb;simpa[or_assoc] using hb
theorem Bd:jM b=false:=by
 have:=ft hb;unfold jM;simp;omega
theorem Ao:jN b=false:=by
 have:=ft hb;unfold jN;simp;omega
theorem tW:dB b=false:=by
 have:=ft hb;unfold dB;simp;omega
theorem wQ:jy b=false:=by
 unfold jy;rw[Bd hb,Ao hb,tW hb];rfl
theorem Ha:pF b=false:=by
 have:=ft hb;unfold pF GV;simp only[List.any_eq_false,decide_eq_true_eq];intro d hd;simp only[List.mem_cons,List.not_mem_nil,or_false] at hd;rcases hd with rfl | rfl | rfl | rfl | rfl | rfl | rfl | rfl | rfl | rfl | rfl | rfl | rfl | rfl | rfl | rfl | rfl<;>(rw[show ∀n,(UInt8.toNat n)=n.toNat from fun _=>rfl];simp;omega)
end
theorem ml (p:UInt8→Bool) {b:UInt8} (hp:p b=false) (v:List UInt8):∀u,runN p (u++b::v)=runN p u
 | []=>by
   show (if p b then _ else 0)=0;rw[hp];rfl
 | c::r=>by
   show (if p c then runN p (r++b::v)+1 else 0)=if p c then runN p r+1 else 0
   rw[ml p hp v r]
theorem l7 {α:Type} {k:Nat} {u w:List α} (h:k≤u.length):(u++w).take k=u.take k:=by rw[List.take_append_of_le_length h]
section
variable {b:UInt8} (hb:fA b=true) (v:List UInt8)
include hb
theorem wc:∀{u:List UInt8},u≠[]→jj (u++b::v)=jj u
 | [c],_=>by
   show (decide (c.toNat=46)&&(fA b||decide (b.toNat=37)))=(decide (c.toNat=46)&&true);rw[hb];rfl
 | c::d::r,_=>rfl
theorem zu:∀u,j7 (u++b::v)=j7 u
 | []=>by
   show (if pF b&&_ then _ else 0)=0;rw[Ha hb];rfl
 | c::r=>by
   have e:=wc hb v (u:=c::r) (by simp);show (if pF c&&!jj (c::r++b::v) then j7 (r++b::v)+1 else 0)=if pF c&&!jj (c::r) then j7 r+1 else 0
   rw[e,zu r]
theorem Aq:¬ b.toNat=39:=by have:=ft hb;omega
theorem G4:ug b=none:=by
 have:=ft hb;unfold ug;rw[if_neg (by omega),if_neg (by omega),if_neg (by omega),if_neg (by omega)]
theorem u9:∀(n m:Nat) (u acc:List UInt8) (k:Nat),u.length < n→u.length+v.length+1 < m→(eP n u acc k).1≠none→eP m (u++b::v) acc k=eP n u acc k
 | 0,_,_,_,_,h,_,_=>by omega
 | _+1,0,_,_,_,_,h,_=>by omega
 | n+1,m+1,[],acc,k,_,_,h=>by rw[si] at h;exact absurd rfl h
 | n+1,m+1,c::r,acc,k,h1,h2,h=>by
   simp only[List.length_cons] at h1 h2;rw[List.cons_append];by_cases c1:c.toNat=39
   ·cases r with
    | nil=>rw[List.nil_append,qQ c1 (Aq hb),xm c1]
    | cons d r'=>
      simp only[List.length_cons] at h1 h2;rw[List.cons_append];by_cases c2:d.toNat=39
      ·rw[s9 c1 c2] at h ⊢;rw[s9 c1 c2];exact u9 n m r' _ _ (by omega) (by omega) h
      ·rw[qQ c1 c2,qQ c1 c2]
   ·by_cases c2:c.toNat < 32∨126 < c.toNat
    ·rw[rU c1 c2] at h;exact absurd rfl h
    ·by_cases c3:c.toNat=92
     ·cases r with
      | nil=>rw[zM c3] at h;exact absurd rfl h
      | cons d r'=>
        simp only[List.length_cons] at h1 h2;rw[List.cons_append]
        cases hd:ug d with
        | none=>rw[ui c3 hd] at h;exact absurd rfl h
        | some x=>
          rw[tF c3 hd] at h ⊢;rw[tF c3 hd];exact u9 n m r' _ _ (by omega) (by omega) h
     ·rw[nV c1 c2 c3] at h ⊢;rw[nV c1 c2 c3];exact u9 n m r _ _ (by omega) (by omega) h
theorem sr (hv:∀m acc k,(eP m (b::v) acc k).1=none):∀(n m:Nat) (u acc:List UInt8) (k:Nat),u.length < n→(eP m (u++b::v) acc k).1≠none→(eP n u acc k).1≠none
 | 0,_,_,_,_,h,_=>by omega
 | _+1,0,_,_,_,_,h=>absurd rfl h
 | n+1,m+1,[],acc,k,_,h=>absurd (hv _ _ _) h
 | n+1,m+1,c::r,acc,k,h1,h=>by
   simp only[List.length_cons] at h1;rw[List.cons_append] at h;by_cases c1:c.toNat=39
   ·cases r with
    | nil=>rw[xm c1];simp
    | cons d r'=>
      simp only[List.length_cons] at h1;rw[List.cons_append] at h;by_cases c2:d.toNat=39
      ·rw[s9 c1 c2] at h ⊢;exact sr hv n m r' _ _ (by omega) h
      ·rw[qQ c1 c2];simp
   ·by_cases c2:c.toNat < 32∨126 < c.toNat
    ·rw[rU c1 c2] at h;exact absurd rfl h
    ·by_cases c3:c.toNat=92
     ·cases r with
      | nil=>
        rw[List.nil_append,ui c3 (G4 hb)] at h;exact absurd rfl h
      | cons d r'=>
        simp only[List.length_cons] at h1;rw[List.cons_append] at h
        cases hd:ug d with
        | none=>rw[ui c3 hd] at h;exact absurd rfl h
        | some x=>
          rw[tF c3 hd] at h ⊢;exact sr hv n m r' _ _ (by omega) h
     ·rw[nV c1 c2 c3] at h ⊢;exact sr hv n m r _ _ (by omega) h
theorem va {u:List UInt8} (hu:u≠[]) (h:(cC u).2.2=0):cC (u++b::v)=cC u:=by
 cases u with
 | nil=>exact absurd rfl hu
 | cons c r=>
   have e1:=ml jy (wQ hb) v (c::r);have e2:=ml dB (tW hb) v (c::r);have e3:=zu hb v (c::r);have e4:=wc hb v (u:=c::r) (by simp);have t1:=l7 (w:=b::v) (gQ jy (c::r));have t2:=l7 (w:=b::v) (gQ dB (c::r));have t3:=l7 (w:=b::v) (qT (c::r));rw[List.cons_append] at e1 e2 e3 e4 t1 t2 t3 ⊢;unfold cC at h ⊢;dsimp only at h ⊢;rw[e1,e2,e3,e4,t1,t2,t3];by_cases k1:jM c=true
   ·rw[if_pos k1,if_pos k1]
   rw[if_neg k1] at h ⊢;rw[if_neg k1];by_cases k2:jN c=true
   ·rw[if_pos k2,if_pos k2]
   rw[if_neg k2] at h ⊢;rw[if_neg k2];by_cases k3:dB c=true
   ·rw[if_pos k3,if_pos k3]
   rw[if_neg k3] at h ⊢;rw[if_neg k3];by_cases k4:c.toNat=39
   ·rw[if_pos k4] at h ⊢;rw[if_pos k4]
    have hq:(eP (r.length+1) r [] 1).1≠none:=fun hn=>by
     generalize eP (r.length+1) r [] 1=q at *;obtain⟨a,j⟩:=q;dsimp only at hn;subst hn;cases h
    rw[u9 hb v (r.length+1) ((r++b::v).length+1) r [] 1 (by omega) (by simp) hq]
   rw[if_neg k4] at h ⊢;rw[if_neg k4];by_cases k5:jj (c::r)=true
   ·rw[if_pos k5,if_pos k5]
   rw[if_neg k5] at h ⊢;rw[if_neg k5];by_cases k6:pF c=true
   ·rw[if_pos k6,if_pos k6]
   rw[if_neg k6] at h ⊢;rw[if_neg k6];by_cases k7:c.toNat=59∨c.toNat=33
   ·rw[if_pos k7,if_pos k7]
   rw[if_neg k7] at h ⊢;rw[if_neg k7]
   cases r with
   | nil=>
     have:=ft hb;rw[List.nil_append];dsimp only;rw[if_neg (by omega)]
   | cons d r'=>rfl
theorem Kf (hv:∀m acc k,(eP m (b::v) acc k).1=none) {u:List UInt8} (hu:u≠[]) (h:(cC (u++b::v)).2.2=0):(cC u).2.2=0:=by
 cases u with
 | nil=>exact absurd rfl hu
 | cons c r=>
   have e1:=ml jy (wQ hb) v (c::r);have e2:=ml dB (tW hb) v (c::r);have e3:=zu hb v (c::r);have e4:=wc hb v (u:=c::r) (by simp);have t1:=l7 (w:=b::v) (gQ jy (c::r));have t2:=l7 (w:=b::v) (gQ dB (c::r));have t3:=l7 (w:=b::v) (qT (c::r));rw[List.cons_append] at e1 e2 e3 e4 t1 t2 t3 h;unfold cC at h ⊢;dsimp only at h ⊢;rw[e1,e2,e3,e4,t1,t2,t3] at h;by_cases k1:jM c=true
   ·rw[if_pos k1]
   rw[if_neg k1] at h ⊢;by_cases k2:jN c=true
   ·rw[if_pos k2]
   rw[if_neg k2] at h ⊢;by_cases k3:dB c=true
   ·rw[if_pos k3] at h ⊢;exact h
   rw[if_neg k3] at h ⊢;by_cases k4:c.toNat=39
   ·rw[if_pos k4] at h ⊢
    have hq:(eP ((r++b::v).length+1) (r++b::v) [] 1).1≠none:=fun hn=>by
     generalize eP ((r++b::v).length+1) (r++b::v) [] 1=q at *;obtain⟨a,j⟩:=q;dsimp only at hn;subst hn;cases h
    have hq2:=sr hb v hv (r.length+1) _ r [] 1 (by omega) hq;generalize eP (r.length+1) r [] 1=q at *;obtain⟨a,j⟩:=q
    cases a with
    | none=>exact absurd rfl hq2
    | some t=>rfl
   rw[if_neg k4] at h ⊢;by_cases k5:jj (c::r)=true
   ·rw[if_pos k5]
   rw[if_neg k5] at h ⊢;by_cases k6:pF c=true
   ·rw[if_pos k6]
   rw[if_neg k6] at h ⊢;by_cases k7:c.toNat=59∨c.toNat=33
   ·rw[if_pos k7]
   rw[if_neg k7] at h ⊢
   cases r with
   | nil=>
     have:=ft hb;rw[List.nil_append] at h;dsimp only at h ⊢;rw[if_neg (by omega)] at h;exact h
   | cons d r'=>exact h
end
theorem lf:∀(n m:Nat) (l:List UInt8),l.length < n→l.length < m→dx n l=dx m l
 | 0,_,_,h,_=>by omega
 | _+1,0,_,_,h=>by omega
 | n+1,m+1,[],_,_=>rfl
 | n+1,m+1,c::r,h1,h2=>by
   simp only[List.length_cons] at h1 h2;unfold dx;by_cases hb:fA c=true
   ·rw[if_pos hb,if_pos hb,lf n m r (by omega) (by omega)]
   rw[if_neg hb,if_neg hb];by_cases hc:c.toNat=37
   ·have hp:1≤runN fj (c::r):=jZ (by unfold fj;rw[hc];rfl);have hl:((c::r).drop (runN fj (c::r))).length≤r.length:=by rw[List.length_drop];simp;omega
    rw[if_pos hc,if_pos hc,lf n m _ (by omega) (by omega)]
   ·rw[if_neg hc,if_neg hc]
def eF (x:List UInt8):List UInt8:=x.drop (dx (x.length+1) x)
theorem iN (x:List UInt8):(eF x).length≤x.length:=by unfold eF;rw[List.length_drop];omega
theorem HZ:eF []=[]:=rfl
theorem j6 {c:UInt8} {r:List UInt8} (h:fA c=true):eF (c::r)=eF r:=by
 unfold eF
 conv=>lhs;rw[show dx ((c::r).length+1) (c::r)=dx (r.length+1) r+1 from by
  conv=>lhs;unfold dx
  rw[if_pos h];rfl]
 rfl
theorem o7 {c:UInt8} {r:List UInt8} (h:c.toNat=37):eF (c::r)=eF ((c::r).drop (runN fj (c::r))):=by
 have hb:¬ fA c=true:=fun e=>by have:=ft e;omega
 have hp:1≤runN fj (c::r):=jZ (by unfold fj;rw[h];rfl);have hl:((c::r).drop (runN fj (c::r))).length≤r.length:=by rw[List.length_drop];simp;omega
 have e:dx ((c::r).length+1) (c::r)=runN fj (c::r)+dx (((c::r).drop (runN fj (c::r))).length+1) ((c::r).drop (runN fj (c::r))):=by
  conv=>lhs;unfold dx
  rw[if_neg hb,if_pos h,lf (c::r).length (((c::r).drop (runN fj (c::r))).length+1) _ (by simp only[List.length_cons];omega) (by omega)]
 unfold eF;rw[e,List.drop_drop]
theorem l4 {c:UInt8} {r:List UInt8} (h1:¬ fA c=true) (h2:¬ c.toNat=37):eF (c::r)=c::r:=by
 unfold eF dx;rw[if_neg h1,if_neg h2];rfl
theorem pc {b:UInt8} (hb:b.toNat=10) (v:List UInt8):∀(n:Nat) (x:List UInt8),x.length < n→eF (x++b::v)=if eF x=[] then eF v else eF x++b::v
 | 0,_,h=>by omega
 | n+1,[],_=>by
   rw[List.nil_append,j6 (by unfold fA;simp[hb]),HZ,if_pos rfl]
 | n+1,c::r,h=>by
   simp only[List.length_cons] at h;rw[List.cons_append];by_cases h1:fA c=true
   ·rw[j6 h1,j6 h1];exact pc hb v n r (by omega)
   by_cases h2:c.toNat=37
   ·have hp:1≤runN fj (c::r):=jZ (by unfold fj;rw[h2];rfl);have e:=ml fj (b:=b) (by unfold fj;simp[hb]) v (c::r);rw[List.cons_append] at e;rw[o7 h2,o7 h2,e,←List.cons_append,List.drop_append_of_le_length (gQ _ _)];exact pc hb v n _ (by rw[List.length_drop];simp;omega)
   ·rw[l4 h1 h2,l4 h1 h2,if_neg (by simp)];rfl
def km (u:List UInt8):List UInt8:=u.drop (cC u).2.1
def ew (u:List UInt8):List UInt8:=eF (km u)
def ku (u:List UInt8):eS:=⟨(cC u).1.kind,(cC u).1.text,(cC u).1.num,decide ((km u).head?.map UInt8.toNat=some 40),decide (u.length - (ew u).length=1∧ew u≠[])⟩
theorem kO {u:List UInt8} (h:(cC u).2.2=0):(km u).length < u.length∧(ew u).length < u.length:=by
 have h1:=iH u;have h2:=h1.2 h;have h3:=iN (km u);have h4:(km u).length=u.length - (cC u).2.1:=by unfold km;rw[List.length_drop]
 unfold ew;omega
def jf:Nat→List UInt8→Option (List eS)
 | 0,_=>none
 | _+1,[]=>some []
 | n+1,c::r=>if (cC (c::r)).2.2=0 then (jf n (ew (c::r))).map (ku (c::r)::·) else none
theorem BT:∀(n m:Nat) (u:List UInt8),u.length < n→u.length < m→jf n u=jf m u
 | 0,_,_,h,_=>by omega
 | _+1,0,_,_,h=>by omega
 | n+1,m+1,[],_,_=>rfl
 | n+1,m+1,c::r,h1,h2=>by
   unfold jf;by_cases h:(cC (c::r)).2.2=0
   ·have:=(kO h).2;simp only[List.length_cons] at h1 h2 this;rw[if_pos h,if_pos h,BT n m _ (by omega) (by omega)]
   ·rw[if_neg h,if_neg h]
def oD (x:List UInt8):Option (List eS):=jf (x.length+1) (eF x)
theorem FA {x:List UInt8} {n:Nat} (h:(eF x).length < n):oD x=jf n (eF x):=BT _ _ _ (by have:=iN x;omega) h
section
variable {b:UInt8} (hb:b.toNat=10) (v:List UInt8)
include hb
theorem wy:fA b=true:=by unfold fA;simp[hb]
theorem Fe {u:List UInt8} (hu:u≠[]) (h:(cC u).2.2=0):km (u++b::v)=km u++b::v:=by
 unfold km;rw[va (wy hb) v hu h,List.drop_append_of_le_length (iH u).1]
theorem An {u:List UInt8} (hu:u≠[]) (h:(cC u).2.2=0):ew (u++b::v)=if ew u=[] then eF v else ew u++b::v:=by
 unfold ew;rw[Fe hb v hu h];exact pc hb v _ _ (Nat.lt_succ_self _)
theorem Mf {u:List UInt8} (hu:u≠[]) (h:(cC u).2.2=0):ku (u++b::v)=ku u:=by
 have e1:=va (wy hb) v hu h;have e2:=Fe hb v hu h;have e3:=An hb v hu h;have l1:=kO h;unfold ku;rw[e1,e2];congr 1
 ·cases hn:km u with
  | nil=>simp[hb]
  | cons d w=>rfl
 ·rw[e3];by_cases hr:ew u=[]
  ·rw[if_pos hr];have h1:=iN v;have h2:(u++b::v).length=u.length+v.length+1:=by simp;omega
   have h3:0 < u.length:=List.length_pos_iff.2 hu;rw[decide_eq_false (fun g=>by omega),decide_eq_false (fun g=>g.2 hr)]
  ·rw[if_neg hr];have h2:(u++b::v).length=u.length+v.length+1:=by simp;omega
   have h3:(ew u++b::v).length=(ew u).length+v.length+1:=by simp;omega
   rw[h2,h3];refine decide_eq_decide.2 ⟨fun g=>⟨by omega,hr⟩,fun g=>⟨by omega,by simp⟩⟩
theorem F1 {L':List eS} (hv:oD v=some L'):∀(n:Nat) (u:List UInt8) (L:List eS),u≠[]→u.length < n→jf n u=some L→∀m,u.length+v.length+1 < m→jf m (u++b::v)=some (L++L')
 | 0,_,_,_,h,_,_,_=>by omega
 | n+1,[],_,h,_,_,_,_=>absurd rfl h
 | n+1,c::r,L,hu,h1,h,0,h2=>by omega
 | n+1,c::r,L,hu,h1,h,m+1,h2=>by
   unfold jf at h;by_cases he:(cC (c::r)).2.2=0
   ·rw[if_pos he,Option.map_eq_some_iff] at h;obtain⟨K,h3,rfl⟩:=h;have e1:=va (wy hb) v hu he;have e2:=Mf hb v hu he;have e3:=An hb v hu he;have l1:=(kO he).2;simp only[List.length_cons] at h1 h2 l1;rw[List.cons_append] at e1 e2 e3 ⊢;unfold jf;rw[e1,if_pos he,e2,e3];by_cases hr:ew (c::r)=[]
    ·rw[if_pos hr];rw[hr] at h3
     have hK:K=[]:=by
      cases n with
      | zero=>cases h3
      | succ n=>cases h3;rfl
     subst hK;have:=iN v;rw[←FA (x:=v) (n:=m) (by omega),hv];rfl
    ·rw[if_neg hr];rw[F1 hv n (ew (c::r)) K hr (by omega) h3 m (by omega)];rfl
   ·rw[if_neg he] at h;cases h
theorem Jy {x:List UInt8} {L L':List eS} (hx:oD x=some L) (hv:oD v=some L'):oD (x++b::v)=some (L++L'):=by
 have e:=pc hb v _ x (Nat.lt_succ_self _);have l1:=iN x;have l2:=iN v;by_cases hs:eF x=[]
 ·rw[if_pos hs] at e
  have hL:L=[]:=by
   unfold oD at hx;rw[hs] at hx;cases hx;rfl
  subst hL;unfold oD;rw[e,List.nil_append,←FA (x:=v) (by simp;omega)];exact hv
 ·rw[if_neg hs] at e;unfold oD;rw[e];exact F1 hb v hv (x.length+1) (eF x) L hs (by omega) hx _ (by simp;omega)
end
theorem Fp:∀(f:Nat) (s:List UInt8) (j:Nat) (acc:List Tok),j≤s.length→s.length - j < f→(oA f s j acc).2.2=0→∃M,(oA f s j acc).1=acc++M∧jf f (s.drop j)=some (iR M)∧M.head?.map Tok.at_=if j < s.length then some (j:Int) else none
 | 0,_,_,_,_,h,_=>by omega
 | f+1,s,j,acc,hj,hf,h=>by
   unfold oA at h ⊢;by_cases h1:s.length≤j
   ·rw[if_pos h1];refine⟨[],by simp,?_,?_⟩
    ·rw[List.drop_of_length_le h1];rfl
    ·rw[if_neg (by omega)];rfl
   rw[if_neg h1] at h ⊢;by_cases h2:(cC (s.drop j)).2.2=0
   ·rw[if_neg (fun g=>g h2)] at h ⊢;by_cases h3:(((cC (s.drop j)).1.kind=1∨(cC (s.drop j)).1.kind=2)∧64 < (cC (s.drop j)).1.text.length)∨acc.length=1024
    ·rw[if_pos h3] at h;cases h
    rw[if_neg h3] at h ⊢;have hu:s.drop j≠[]:=fun e=>by have:=congrArg List.length e;simp at this;omega
    have l1:=kO h2;have l2:=iH (s.drop j);have l3:=l2.2 h2;have ld:(s.drop j).length=s.length - j:=List.length_drop;have en:km (s.drop j)=s.drop (j+(cC (s.drop j)).2.1):=by unfold km;rw[List.drop_drop]
    have ek:dx (s.length+1) (s.drop (j+(cC (s.drop j)).2.1))=dx ((km (s.drop j)).length+1) (km (s.drop j)):=by
     rw[en];exact lf _ _ _ (by rw[List.length_drop];omega) (Nat.lt_succ_self _)
    have er:ew (s.drop j)=s.drop (j+(cC (s.drop j)).2.1+dx (s.length+1) (s.drop (j+(cC (s.drop j)).2.1))):=by
     unfold ew eF;rw[←ek,en,List.drop_drop]
    have lk:=ja (s.length+1) (s.drop (j+(cC (s.drop j)).2.1));rw[List.length_drop] at lk;have lr:=congrArg List.length er;rw[List.length_drop] at lr;obtain⟨M,a1,a2,a3⟩:=Fp f s _ _ (by omega) (by omega) h;rw[←er] at a2;refine⟨⟨(cC (s.drop j)).1.kind,(cC (s.drop j)).1.text,(cC (s.drop j)).1.num,decide ((s[j+(cC (s.drop j)).2.1]?.map UInt8.toNat)=some 40),j⟩::M,by rw[a1];simp,?_,by rw[if_pos (by omega)];rfl⟩
    cases hd:s.drop j with
    | nil=>exact absurd hd hu
    | cons c r=>
      rw[←hd];have:jf (f+1) (s.drop j)=if (cC (s.drop j)).2.2=0 then (jf f (ew (s.drop j))).map (ku (s.drop j)::·) else none:=by rw[hd];rfl
      rw[this,if_pos h2,a2];show some _=some (_::iR M);refine congrArg some (congrArg (·::iR M) ?_);unfold ku;congr 1
      ·rw[en,List.head?_drop]
      ·cases M with
       | nil=>
         have hz:¬ (j+(cC (s.drop j)).2.1+dx (s.length+1) (s.drop (j+(cC (s.drop j)).2.1))) < s.length:=fun g=>by rw[if_pos g] at a3;cases a3
         show decide _=false;refine decide_eq_false fun g=>g.2 ?_
         rw[er];exact List.drop_of_length_le (by omega)
       | cons t M=>
         have hz:(j+(cC (s.drop j)).2.1+dx (s.length+1) (s.drop (j+(cC (s.drop j)).2.1))) < s.length:=by
          refine Decidable.byContradiction fun g=>?_
          rw[if_neg g] at a3;cases a3
         rw[if_pos hz] at a3;have ht:t.at_=((j+(cC (s.drop j)).2.1+dx (s.length+1) (s.drop (j+(cC (s.drop j)).2.1)):Nat):Int):=Option.some.inj a3;show decide _=decide (t.at_=(j:Int)+1);refine decide_eq_decide.2 ⟨fun g=>by rw[ht];omega,fun g=>⟨by rw[ht] at g;omega,fun e=>by rw[e] at lr;simp at lr;omega⟩⟩
   ·rw[if_pos h2] at h;exact absurd h h2
theorem vC {s:List UInt8} (h:(dJ s).2.2=0):oD s=some (iR (dJ s).1):=by
 unfold dJ at h ⊢;by_cases hl:4096 < s.length
 ·rw[if_pos hl] at h;cases h
 rw[if_neg hl] at h ⊢;have hk:=ja (s.length+1) s;obtain⟨M,a1,a2,_⟩:=Fp (s.length+1) s (dx (s.length+1) s) [] hk (by omega) h;rw[a1,List.nil_append];exact a2
end Go.Proofs.YtjmeonoabiliiaaGreatDoor

namespace Go.Proofs.YtjmeonoabiliiaaGreatDoor
open Go Sz Go.RowKit
end Go.Proofs.YtjmeonoabiliiaaGreatDoor

namespace Go.Proofs.YtjmeonoabiliiaaGreatDoor
open Go Sz
def Ru (k n:Int) (s:List UInt8):List Tm→Tm
 | []=>.nl k n s
 | x::r=>.mk k n s (x::r)
mutual
def fY:Tm→Tm
 | .nl k n s=>.nl k n s
 | .mk k n s us=>Ru k n s (Mc us)
def Mc:List Tm→List Tm
 | []=>[]
 | t::r=>fY t::Mc r
end
theorem Cw:∀us:List Tm,Mc us=us.map fY
 | []=>rfl
 | x::r=>by simp[Mc,Cw r]
theorem LB (t:Tm):fY t=Ru t.kind t.num t.name (t.args.map fY):=by
 cases t with
 | nl k n s=>rfl
 | mk k n s us=>rw[fY,Cw];rfl
def Av (t:Tm):Bool:=decide (-9223372036854775808≤t.num)&&decide (t.num < 9223372036854775808)
def Tb (k:Nat) (rec rec':Int→St→PR×St):Prop:=∀n st,st.rest.length < k→rec n st=rec' n st
section
variable {k:Nat} {rec rec':Int→St→PR×St} (H:uA rec) (E:Tb k rec rec')
include H E
theorem sh:∀(M M':Nat) (acc:List Tm) (st:St),st.rest.length < k→st.rest.length < M→st.rest.length < M'→br rec M acc st=br rec' M' acc st
 | 0,_,_,_,_,h,_=>by omega
 | _+1,0,_,_,_,_,h=>by omega
 | M+1,M'+1,acc,st,h1,h2,h3=>by
   unfold br;rw[E 999 st h1] at *;by_cases c1:(rec' 999 st).1.2.2=true
   ·rw[if_pos c1,if_pos c1];by_cases c2:(a8 [44] (rec' 999 st).2).1=true
    ·rw[if_pos c2,if_pos c2]
     have p1:(rec' 999 st).2.rest.length < st.rest.length:=by
      have:=(H.ok 999 st (by rw[E 999 st h1];exact c1)).pos;rw[E 999 st h1] at this;exact this
     have p2:=(ef c2).pos;exact sh M M' _ _ (by omega) (by omega) (by omega)
    ·rw[if_neg c2,if_neg c2]
   ·rw[if_neg c1,if_neg c1]
theorem Nb (l:List Tm) (st:St) (h:st.rest.length < k):gA rec l st=gA rec' l st:=by
 unfold gA;have p:=(iB [124] st).len;rw[E 999 (a8 [124] st).2 (by omega)]
theorem Fl (M M':Nat) (st:St) (h1:st.rest.length < k) (h2:st.rest.length < M) (h3:st.rest.length < M'):gd rec M st=gd rec' M' st:=by
 have p:=(im H M [] st).1.len;unfold gd;rw[sh H E M M' [] st h1 h2 h3] at *;rw[Nb H E _ _ (by omega)]
theorem Cr (c:List UInt8) (f:Tm→Tm) (st:St) (h:st.rest.length < k):eH rec c f st=eH rec' c f st:=by
 unfold eH;rw[E 1200 st h]
theorem M5 (M M':Nat) (s:List UInt8) (st:St) (h1:st.rest.length < k) (h2:st.rest.length < M) (h3:st.rest.length < M'):ix rec M s st=ix rec' M' s st:=by
 unfold ix;rw[sh H E M M' [] st h1 h2 h3]
theorem EC (T:List bM) (M M':Nat) (n:Int) (st:St) (h1:st.rest.length≤k) (h2:st.rest.length < M) (h3:st.rest.length < M'):dI rec T M n st=dI rec' T M' n st:=by
 have hl:=cD st;have hl2:=cD (ax st);unfold dI;by_cases k4:(aH st).kind=4
 ·rw[if_pos k4,if_pos k4]
 rw[if_neg k4,if_neg k4];by_cases k3:(aH st).kind=3
 ·rw[if_pos k3,if_pos k3]
 rw[if_neg k3,if_neg k3];by_cases c1:(aH st).kind=5∧(aH st).text=[40]
 ·have:=bH (st:=st) (by omega);rw[if_pos c1,if_pos c1,Cr H E _ _ _ (by omega)]
 rw[if_neg c1,if_neg c1];by_cases c2:(aH st).kind=5∧(aH st).text=[91]
 ·have:=bH (st:=st) (by omega);rw[if_pos c2,if_pos c2,Fl H E M M' _ (by omega) (by omega) (by omega)]
 rw[if_neg c2,if_neg c2];by_cases c3:(aH st).kind=5∧(aH st).text=[123]
 ·have:=bH (st:=st) (by omega);rw[if_pos c3,if_pos c3,Cr H E _ _ _ (by omega)]
 rw[if_neg c3,if_neg c3];by_cases c4:(!ey (aH st))=true
 ·rw[if_pos c4,if_pos c4]
 rw[if_neg c4,if_neg c4];have hk:(aH st).kind≠0:=fun h=>c4 (by unfold ey;rw[h];rfl)
 have:=bH hk;by_cases c5:(aH st).gS=true
 ·rw[if_pos c5,if_pos c5,M5 H E M M' _ _ (by omega) (by omega) (by omega)]
 rw[if_neg c5,if_neg c5];unfold b9;rw[E _ (ax st) (by omega)]
theorem z8 (T:List bM):∀(M M':Nat) (n:Int) (r:PR) (st:St),st.rest.length≤k→st.rest.length < M→st.rest.length < M'→dQ rec T M n r st=dQ rec' T M' n r st
 | 0,_,_,_,_,_,h,_=>by omega
 | _+1,0,_,_,_,_,_,h=>by omega
 | M+1,M'+1,n,r,st,h1,h2,h3=>by
   have hl:=cD st;unfold dQ;by_cases h0:(!r.2.2)=true
   ·rw[if_pos h0,if_pos h0]
   rw[if_neg h0,if_neg h0];by_cases hb:(!(cP T (aH st)).2||decide (n < (cP T (aH st)).1.l)||decide ((a7 (cP T (aH st)).1).1 < r.2.1))=true
   ·rw[if_pos hb,if_pos hb]
   rw[if_neg hb,if_neg hb]
   have hk:(aH st).kind≠0:=fun h=>hb (by
    have:(cP T (aH st)).2=false:=by
     unfold cP ey;rw[h];rfl
    rw[this];rfl)
   have hp:=bH hk;have p:=(H.lv (a7 (cP T (aH st)).1).2 (ax st)).len;rw[E _ (ax st) (by omega)] at *;exact z8 T M M' n _ _ (by omega) (by omega) (by omega)
end
theorem FQ (T:List bM):∀(N M:Nat) (n:Int) (st:St),st.rest.length < N→st.rest.length < M→fu T N n st=fu T M n st
 | 0,_,_,_,h,_=>by omega
 | _+1,0,_,_,_,h=>by omega
 | N+1,M+1,n,st,h1,h2=>by
   have H:=mN T N;have E:Tb (min N M) (fu T N) (fu T M):=fun n st h=>FQ T N M n st (by omega) (by omega)
   have p:=(mO H T (N+1) n st).1.len;unfold fu;rw[EC H E T (N+1) (M+1) n st (by omega) (by omega) (by omega)] at *;exact z8 H E T (N+1) (M+1) n _ _ (by omega) (by omega) (by omega)
def ae (T:List bM) (n:Int) (st:St):PR×St:=fu T (st.rest.length+1) n st
theorem zU (T:List bM) {N:Nat} {st:St} (h:st.rest.length < N) (n:Int):fu T N n st=ae T n st:=FQ T N _ n st h (Nat.lt_succ_self _)
def Fq (b:Nat) (t:Tm):Prop:=t.gV≤70*b∧t.tD Av=true
def RS (b:Nat) (l:List Tm):Prop:=Tm.eZ l+70*l.length≤70*b∧Tm.gU Av l=true
structure uS (st:St):Prop where
 tk:st.rest.all mi=true
 rg:∀p ∈ st.names,0≤p.2∧p.2 < st.next
 le:st.next+st.rest.length≤1000000
theorem Ok.nI {a b:St} (h:Ok a b) (p:uS a):uS b:=⟨h.lv.all mi p.tk,h.lv.rg p.rg,by have:=h.SQ;have:=p.le;omega⟩
structure QO (rec:Int→St→PR×St):Prop where
 b:∀n st,uS st→(rec n st).1.2.2=true→Fq (st.rest.length - (rec n st).2.rest.length) (rec n st).1.1
theorem FD {s:List UInt8} {n:Int}:∀{l:List (List UInt8×Int)},nF s l=some n→∃p ∈ l,p.2=n
 | [],h=>by cases h
 | p::r,h=>by
   unfold nF at h;split at h
   ·cases h;exact⟨p,by simp,rfl⟩
   ·obtain⟨q,h1,h2⟩:=FD h;exact⟨q,List.mem_cons_of_mem _ h1,h2⟩
theorem JJ {s:St} (h1:s.rest.all mi=true) (h2:0 < s.rest.length):mi (aH s)=true:=by
 unfold aH
 cases hr:s.rest with
 | nil=>rw[hr] at h2;simp at h2
 | cons x r=>
   rw[hr,List.all_cons,Bool.and_eq_true] at h1;exact h1.1
theorem zi {s:St} (h1:s.rest.all mi=true) (h2:0 < s.rest.length):0≤(aH s).num∧(aH s).num < 9223372036854775808:=by
 have h:=JJ h1 h2;unfold mi at h;simp only[Bool.and_eq_true,decide_eq_true_eq] at h;exact h.2
theorem BZ {s:St} (h1:s.rest.all mi=true) (h3:ey (aH s)=true):(aH s).text.length≤64:=by
 by_cases h2:0 < s.rest.length
 ·have h:=JJ h1 h2;unfold mi at h;rw[h3] at h;simp only[Bool.not_true,Bool.or_false,Bool.and_eq_true,decide_eq_true_eq] at h;exact h.1
 ·rw[BF (List.length_eq_zero_iff.1 (by omega))];decide
theorem Bh (p:Tm→Bool):∀a b:List Tm,Tm.gU p (a++b)=(Tm.gU p a&&Tm.gU p b)
 | [],b=>rfl
 | t::r,b=>by simp[Tm.gU,Bh p r b,Bool.and_assoc]
theorem vm {b:Nat} {s:List UInt8} {us:List Tm} (hs:s.length≤64) (h1:Tm.eZ us≤70*b) (h2:Tm.gU Av us=true):Fq (b+1) (cb s us):=by
 cases us with
 | nil=>exact⟨by simp[cb,Tm.gV];omega,rfl⟩
 | cons t r=>exact⟨by simp only[cb,Tm.gV];omega,by simp only[cb,Tm.tD,h2];rfl⟩
theorem E5 {b c:Nat} {t:Tm} (ht:Fq c t):∀{l:List Tm},RS b l→Fq (b+c) (dH l t)
 | [],h=>⟨by have:=ht.1;simp only[dH];omega,ht.2⟩
 | x::r,h=>by
   obtain⟨h1,h2⟩:=h;simp only[Tm.eZ,List.length_cons,Tm.gU,Bool.and_eq_true] at h1 h2
   have key:∀l:List Tm,Tm.gU Av l=true→(dH l t).gV≤Tm.eZ l+2*l.length+t.gV∧(dH l t).tD Av=true:=fun l=>by
    induction l with
    | nil=>intro _;exact⟨by simp[dH,Tm.eZ],ht.2⟩
    | cons y q ih=>
      intro h;simp only[Tm.gU,Bool.and_eq_true] at h;obtain⟨i1,i2⟩:=ih h.2;refine⟨?_,?_⟩
      ·simp only[dH,Tm.gV,Tm.eZ,List.length_cons,List.length_nil];omega
      ·simp only[dH,Tm.tD,Tm.gU,h.1,i2];rfl
   obtain⟨k1,k2⟩:=key (x::r) (by simp only[Tm.gU,h2.1,h2.2];rfl);refine⟨?_,k2⟩;simp only[Tm.eZ,List.length_cons] at k1;have:=ht.1;omega
section
variable {rec:Int→St→PR×St} (H:uA rec) (B:QO rec)
include H B
theorem E0:∀(M:Nat) (acc:List Tm) (st:St),uS st→Tm.gU Av acc=true→(br rec M acc st).1.2=true→
 Tm.eZ (br rec M acc st).1.1+70*(br rec M acc st).1.1.length≤Tm.eZ acc+70*acc.length+70*(st.rest.length - (br rec M acc st).2.rest.length)+70∧Tm.gU Av (br rec M acc st).1.1=true
 | 0,acc,st,_,_,h=>by cases h
 | M+1,acc,st,ha,hr,h=>by
   unfold br at h ⊢;by_cases c1:(rec 999 st).1.2.2=true
   ·rw[if_pos c1] at h ⊢;obtain⟨b1,b2⟩:=B.b 999 st ha c1;have o1:=H.ok 999 st c1;have p:=o1.pos
    have hr':Tm.gU Av (acc++[(rec 999 st).1.1])=true:=by
     rw[Bh,hr];simp[Tm.gU,b2]
    have hb':Tm.eZ (acc++[(rec 999 st).1.1])=Tm.eZ acc+(rec 999 st).1.1.gV:=by
     rw[yd];simp[Tm.eZ]
    by_cases c2:(a8 [44] (rec 999 st).2).1=true
    ·rw[if_pos c2] at h ⊢;have o2:=ef c2;have p2:=o2.pos;obtain⟨i1,i2⟩:=E0 M _ _ ((o1.trans o2).nI ha) hr' h;refine⟨?_,i2⟩;have l2:=(im H M (acc++[(rec 999 st).1.1]) (a8 [44] (rec 999 st).2).2).1.len;rw[hb'] at i1;simp only[List.length_append,List.length_cons,List.length_nil] at i1;omega
    ·rw[if_neg c2] at h ⊢;refine⟨?_,hr'⟩;dsimp only;rw[hb'];simp only[List.length_append,List.length_cons,List.length_nil];omega
   ·rw[if_neg c1] at h;cases h
theorem Ar (M:Nat) (st:St) (ha:uS st) (h:(br rec M [] st).1.2=true):RS (st.rest.length - (br rec M [] st).2.rest.length+1) (br rec M [] st).1.1:=by
 obtain⟨i1,i2⟩:=E0 H B M [] st ha rfl h;simp only[Tm.eZ,List.length_nil] at i1;exact⟨by omega,i2⟩
theorem PW (M:Nat) (st:St) (ha:uS st) (h:(gd rec M st).1.2=true):Fq (st.rest.length - (gd rec M st).2.rest.length+1) (gd rec M st).1.1:=by
 unfold gd at h ⊢;by_cases c1:(br rec M [] st).1.2=true
 ·rw[if_pos c1] at h ⊢;have hB:=Ar H B M st ha c1;have hl:=(im H M [] st).2 c1;have p:=hl.pos;have ha1:=hl.nI ha;generalize br rec M [] st=I at *;obtain⟨⟨l,ok⟩,st1⟩:=I;dsimp only at *;unfold gA at h ⊢;by_cases c2:(a8 [124] st1).1=true
  ·rw[if_pos c2] at h ⊢;have p2:=ef c2;have p3:=p2.pos;by_cases c3:(rec 999 (a8 [124] st1).2).1.2.2=true
   ·rw[if_pos c3] at h ⊢;have p4:=(ef h).pos;have p5:=(H.ok _ _ c3).pos;obtain⟨t1,t2⟩:=B.b 999 _ (p2.nI ha1) c3;have:=E5 (c:=(a8 [124] st1).2.rest.length - (rec 999 (a8 [124] st1).2).2.rest.length) ⟨t1,t2⟩ hB;refine⟨Nat.le_trans this.1 ?_,this.2⟩;dsimp only;omega
   ·rw[if_neg c3] at h;cases h
  ·rw[if_neg c2] at h ⊢;have p4:=(ef h).pos;have:=E5 (c:=1) (t:=hP [91,93]) ⟨by decide,rfl⟩ hB;refine⟨Nat.le_trans this.1 ?_,this.2⟩;dsimp only;omega
 ·rw[if_neg c1] at h;cases h
theorem Fa (c:List UInt8) (f:Tm→Tm) (hf:∀b t,Fq b t→Fq (b+1) (f t)) (st:St) (ha:uS st) (h:(eH rec c f st).1.2.2=true):Fq (st.rest.length - (eH rec c f st).2.rest.length+1) (eH rec c f st).1.1:=by
 unfold eH at h ⊢;by_cases c1:(rec 1200 st).1.2.2=true
 ·rw[if_pos c1] at h ⊢;have p:=(H.ok _ _ c1).pos;have p4:=(ef h).pos;have:=hf _ _ (B.b 1200 st ha c1);refine⟨Nat.le_trans this.1 ?_,this.2⟩;dsimp only;omega
 ·rw[if_neg c1] at h;cases h
theorem Qf (M:Nat) (s:List UInt8) (hs:s.length≤64) (st:St) (ha:uS st) (h:(ix rec M s st).1.2.2=true):Fq (st.rest.length - (ix rec M s st).2.rest.length+1) (ix rec M s st).1.1:=by
 unfold ix at h ⊢;by_cases c1:(br rec M [] st).1.2=true
 ·rw[if_pos c1] at h ⊢;have hB:=Ar H B M st ha c1;have p:=((im H M [] st).2 c1).pos;have p4:=(ef h).pos
  have hne:1≤(br rec M [] st).1.1.length:=by
   have:∀(M:Nat) (acc:List Tm) (st:St),(br rec M acc st).1.2=true→acc.length+1≤(br rec M acc st).1.1.length:=fun M=>by
    induction M with
    | zero=>intro acc st h;cases h
    | succ M ih=>
      intro acc st h;unfold br at h ⊢;by_cases d1:(rec 999 st).1.2.2=true
      ·rw[if_pos d1] at h ⊢;by_cases d2:(a8 [44] (rec 999 st).2).1=true
       ·rw[if_pos d2] at h ⊢;have:=ih _ _ h;simp only[List.length_append,List.length_cons,List.length_nil] at this;omega
       ·rw[if_neg d2];simp
      ·rw[if_neg d1] at h;cases h
   have:=this M [] st c1;simpa using this
  have:=vm (b:=st.rest.length - (br rec M [] st).2.rest.length) (s:=s) (us:=(br rec M [] st).1.1) hs (by have:=hB.1;omega) hB.2;refine⟨Nat.le_trans this.1 ?_,this.2⟩;dsimp only;omega
 ·rw[if_neg c1] at h;cases h
theorem Pn (T:List bM) (M:Nat) (n:Int) (st:St) (ha:uS st) (h:(dI rec T M n st).1.2.2=true):Fq (st.rest.length - (dI rec T M n st).2.rest.length) (dI rec T M n st).1.1:=by
 have hl:=cD st;have hl2:=cD (ax st);have ha1:(aH st).kind≠0→uS (ax st):=fun hk=>(jq (bH hk)).nI ha
 unfold dI at h ⊢;by_cases k4:(aH st).kind=4
 ·rw[if_pos k4];have hp:=bH (st:=st) (by omega);have hx:=zi ha.tk hp;refine⟨by simp only[Tm.gV,List.length_nil];omega,?_⟩;show (decide (-9223372036854775808≤(aH st).num)&&decide ((aH st).num < 9223372036854775808))=true;simp only[Bool.and_eq_true,decide_eq_true_eq];omega
 rw[if_neg k4] at h ⊢;by_cases k3:(aH st).kind=3
 ·rw[if_pos k3];have hp:=bH (st:=st) (by omega);have:=(JX (s:=(aH st).text) hp).pos;have hn:st.next≤1000000:=by have:=ha.le;omega
  dsimp only
  suffices hh:Fq 1 (iS (aH st).text (ax st)).1 from⟨Nat.le_trans hh.1 (by omega),hh.2⟩
  unfold iS;split
  ·rename_i k hk;obtain⟨p,h1,h2⟩:=FD hk;have:=ha.rg p h1;refine⟨by simp[Tm.gV],?_⟩;show (decide (-9223372036854775808≤k)&&decide (k < 9223372036854775808))=true;simp only[Bool.and_eq_true,decide_eq_true_eq];omega
  ·refine⟨by simp[Tm.gV],?_⟩;have e:(ax st).next=st.next:=rfl
   show (decide (-9223372036854775808≤((ax st).next:Int))&&decide (((ax st).next:Int) < 9223372036854775808))=true;simp only[Bool.and_eq_true,decide_eq_true_eq];omega
 rw[if_neg k3] at h ⊢;by_cases c1:(aH st).kind=5∧(aH st).text=[40]
 ·rw[if_pos c1] at h ⊢;have hp:=bH (st:=st) (by omega);have b:=Fa H B [41] (fun t=>t) (fun b t hb=>⟨Nat.le_trans hb.1 (by omega),hb.2⟩) _ (ha1 (by omega)) h;have hle:=(rj H [41] (fun t=>t) (ax st)).1.len;exact⟨Nat.le_trans b.1 (by omega),b.2⟩
 rw[if_neg c1] at h ⊢;by_cases c2:(aH st).kind=5∧(aH st).text=[91]
 ·rw[if_pos c2] at h ⊢;have hp:=bH (st:=st) (by omega);have b:=PW H B M _ (ha1 (by omega)) h;have hle:=(zh H M (ax st)).1.len;exact⟨Nat.le_trans b.1 (by dsimp only;omega),b.2⟩
 rw[if_neg c2] at h ⊢;by_cases c3:(aH st).kind=5∧(aH st).text=[123]
 ·rw[if_pos c3] at h ⊢;have hp:=bH (st:=st) (by omega);have b:=Fa H B [125] (fun t=>cb [123,125] [t]) (fun b t hb=>vm (by decide) (by have:=hb.1;simp only[Tm.eZ];omega) (by simp[Tm.gU,hb.2])) _ (ha1 (by omega)) h;have hle:=(rj H [125] (fun t=>cb [123,125] [t]) (ax st)).1.len;exact⟨Nat.le_trans b.1 (by omega),b.2⟩
 rw[if_neg c3] at h ⊢;by_cases c4:(!ey (aH st))=true
 ·rw[if_pos c4] at h;cases h
 rw[if_neg c4] at h ⊢;have hk:(aH st).kind≠0:=fun h=>c4 (by unfold ey;rw[h];rfl)
 have hp:=bH hk;have hnm:(aH st).text.length≤64:=BZ ha.tk (by simpa using c4);by_cases c5:(aH st).gS=true
 ·rw[if_pos c5] at h ⊢;have o:=(zl H M (aH st).text (ax (ax st))).2 h;have hle:=o.lv.len;have hp2:0 < (ax st).rest.length:=by have:=o.pos;omega
  have b:=Qf H B M (aH st).text hnm _ ((jq hp2).nI (ha1 hk)) h;exact⟨Nat.le_trans b.1 (by omega),b.2⟩
 rw[if_neg c5] at h ⊢;by_cases c6:(aH st).kind=1∧(aH st).text=[45]∧(aH (ax st)).kind=4∧(aH st).Nx=true
 ·rw[if_pos c6];have hp2:=bH (st:=ax st) (by omega);have hx:=zi (ha1 hk).tk hp2;refine⟨by simp only[Tm.gV,List.length_nil];omega,?_⟩;show (decide (-9223372036854775808≤(-(aH (ax st)).num))&&decide ((-(aH (ax st)).num) < 9223372036854775808))=true;simp only[Bool.and_eq_true,decide_eq_true_eq];omega
 rw[if_neg c6] at h ⊢;unfold b9 at h ⊢;have hat:Fq 1 (hP (aH st).text):=⟨by simp only[hP,Tm.gV];omega,rfl⟩
 by_cases d1:(aH st).kind=2
 ·rw[if_pos d1];exact⟨Nat.le_trans hat.1 (by dsimp only;omega),hat.2⟩
 rw[if_neg d1] at h ⊢;by_cases d2:((bZ T (aH st).text true).2&&decide ((bZ T (aH st).text true).1.l≤n)&&fC T (ax st))=true
 ·rw[if_pos d2] at h ⊢;have b:=B.b _ _ (ha1 hk) h;have p:=(H.ok _ _ h).pos;have:=vm (b:=(ax st).rest.length - (rec (a7 (bZ T (aH st).text true).1).2 (ax st)).2.rest.length) (s:=(aH st).text) (us:=[(rec (a7 (bZ T (aH st).text true).1).2 (ax st)).1.1]) hnm (by have:=b.1;simp only[Tm.eZ];omega) (by simp[Tm.gU,b.2]);exact⟨Nat.le_trans this.1 (by dsimp only;omega),this.2⟩
 ·rw[if_neg d2];exact⟨Nat.le_trans hat.1 (by dsimp only;omega),hat.2⟩
theorem KT (T:List bM):∀(M:Nat) (n:Int) (r:PR) (st:St) (b:Nat),uS st→Fq b r.1→(dQ rec T M n r st).1.2.2=true→Fq (b+(st.rest.length - (dQ rec T M n r st).2.rest.length)) (dQ rec T M n r st).1.1
 | 0,n,r,st,b,_,hb,_=>⟨Nat.le_trans hb.1 (by omega),hb.2⟩
 | M+1,n,r,st,b,ha,hb,h=>by
   unfold dQ at h ⊢;by_cases h0:(!r.2.2)=true
   ·rw[if_pos h0];exact⟨Nat.le_trans hb.1 (by omega),hb.2⟩
   rw[if_neg h0] at h ⊢;by_cases h1:(!(cP T (aH st)).2||decide (n < (cP T (aH st)).1.l)||decide ((a7 (cP T (aH st)).1).1 < r.2.1))=true
   ·rw[if_pos h1];exact⟨Nat.le_trans hb.1 (by omega),hb.2⟩
   rw[if_neg h1] at h ⊢;have hl:=cD st
   have hkx:(aH st).kind≠0∧(aH st).text.length≤64:=by
    by_cases hn:ey (aH st)=true
    ·refine⟨fun h=>?_,BZ ha.tk hn⟩;unfold ey at hn;rw[h] at hn;cases hn
    ·by_cases h5:(aH st).kind=5∧(aH st).text=[44]
     ·exact⟨by omega,by rw[h5.2];decide⟩
     ·refine absurd ?_ h1
      have:(cP T (aH st)).2=false:=by
       unfold cP;rw[if_pos];rw[Bool.not_eq_true] at hn;rw[hn];simp only[Bool.not_false,Bool.true_and,Bool.or_eq_true,Bool.not_eq_true',decide_eq_false_iff_not];by_cases g:(aH st).kind=5
       ·exact .inr fun g2=>h5 ⟨g,g2⟩
       ·exact .inl g
      rw[this];rfl
   have hp:=bH hkx.1;have oa:=jq hp;have ok2:=((gY H T M n _ _).2 h).1;have oq:=H.ok _ _ ok2;have bq:=B.b _ _ (oa.nI ha) ok2;have pq:=oq.pos;have hle:=(gY H T M n (cb (aH st).text [r.1,(rec (a7 (cP T (aH st)).1).2 (ax st)).1.1],(cP T (aH st)).1.l,(rec (a7 (cP T (aH st)).1).2 (ax st)).1.2.2) (rec (a7 (cP T (aH st)).1).2 (ax st)).2).1.len
   have hc:=vm (b:=b+((ax st).rest.length - (rec (a7 (cP T (aH st)).1).2 (ax st)).2.rest.length)) (s:=(aH st).text) (us:=[r.1,(rec (a7 (cP T (aH st)).1).2 (ax st)).1.1]) hkx.2
    (by have:=bq.1;have:=hb.1;simp only[Tm.eZ];omega) (by simp[Tm.gU,bq.2,hb.2])
   have i:=KT T M n _ _ _ ((oa.trans oq).nI ha) hc h;exact⟨Nat.le_trans i.1 (by omega),i.2⟩
end
theorem El (T:List bM):∀N,QO (fu T N)
 | 0=>⟨fun n st _ h=>by cases h⟩
 | N+1=>⟨fun n st ha h=>by
   have H:=mN T N;have B:=El T N;unfold fu at h ⊢;have h1:=((gY H T (N+1) n _ _).2 h).1;have o:=(mO H T (N+1) n st).2 h1;have b:=Pn H B T (N+1) n st ha h1;have hle:=(gY H T (N+1) n (dI (fu T N) T (N+1) n st).1 (dI (fu T N) T (N+1) n st).2).1.len;have i:=KT H B T (N+1) n _ _ _ (o.nI ha) b h;have:=o.pos;exact⟨Nat.le_trans i.1 (by omega),i.2⟩⟩
def pS (e:eS):Prop:=e.kind=6∨(e.kind=5∧e.text=[41])
theorem oQ {e:eS} (h:pS e) (T:List bM):cP T e=(gj,false):=by
 unfold cP ey;rcases h with h | ⟨h,h2⟩
 ·rw[h];rfl
 ·rw[h,h2];rfl
theorem xS {e:eS} (h:pS e):e.kind≠0∧e.kind≠3∧e.kind≠4:=by
 rcases h with h | ⟨h,_⟩<;>rw[h]<;>decide
theorem HS {e:eS} (h:pS e) {c:List UInt8} (hc:c≠[41]):¬ (e.kind=5∧e.text=c):=fun g=>by
 rcases h with h | ⟨_,h2⟩
 ·rw[h] at g;exact absurd g.1 (by decide)
 ·exact hc (g.2.symm.trans h2)
def Sw (Q Q':List eS) (d:Nat) (s s':St):Prop:=∃R,s.rest=R++Q∧s'.rest=R++Q'∧s'.at_=s.at_+d∧s'.next=s.next∧s'.names=s.names
section
variable {Q1 Q1':List eS} {e e':eS} {d:Nat} (he:pS e) (he':pS e')
section
variable {s s':St} (h:Sw (e::Q1) (e'::Q1') d s s')
include h
theorem ou (hl:Q1.length+1 < s.rest.length):aH s'=aH s:=by
 obtain⟨R,h1,h2,_⟩:=h;unfold aH;rw[h1,h2]
 cases R with
 | nil=>rw[h1] at hl;simp at hl
 | cons x R=>rfl
theorem wX (hl:Q1.length+1 < s.rest.length):Sw (e::Q1) (e'::Q1') d (ax s) (ax s'):=by
 obtain⟨R,h1,h2,h3,h4,h5⟩:=h
 cases R with
 | nil=>rw[h1] at hl;simp at hl
 | cons x R=>
   refine⟨R,?_,?_,?_,h4,h5⟩
   ·show s.rest.tail=_;rw[h1];rfl
   ·show s'.rest.tail=_;rw[h2];rfl
   ·show s'.at_+1=s.at_+1+d;omega
theorem pn (hl:¬ Q1.length+1 < s.rest.length):aH s=e∧aH s'=e'∧(ax s).rest.length=Q1.length:=by
 obtain⟨R,h1,h2,_⟩:=h
 cases R with
 | nil=>
   refine⟨?_,?_,?_⟩
   ·unfold aH;rw[h1];rfl
   ·unfold aH;rw[h2];rfl
   ·rw[cD,h1];simp
 | cons x R=>rw[h1] at hl;simp at hl;omega
theorem po {c:List UInt8} (ht:(a8 c s).1=true) (hl:Q1.length+1≤(a8 c s).2.rest.length):(a8 c s').1=true∧Sw (e::Q1) (e'::Q1') d (a8 c s).2 (a8 c s').2:=by
 by_cases hx:Q1.length+1 < s.rest.length
 ·have hs:=ou h hx;have ha:=wX h hx;unfold a8 at ht hl ⊢;rw[hs];by_cases hc:(aH s).kind=5∧(aH s).text=c
  ·rw[if_pos hc,if_pos hc];exact⟨rfl,ha⟩
  ·rw[if_neg hc] at ht;cases ht
 ·have hs:=pn h hx;unfold a8 at ht hl;by_cases hc:(aH s).kind=5∧(aH s).text=c
  ·rw[if_pos hc] at hl;dsimp only at hl;omega
  ·rw[if_neg hc] at ht;cases ht
include he' in
theorem vV {c:List UInt8} (hc:c≠[41]) (ht:(a8 c s).1=false):(a8 c s').1=false:=by
 by_cases hx:Q1.length+1 < s.rest.length
 ·have hs:=ou h hx;unfold a8 at ht ⊢;rw[hs];by_cases hk:(aH s).kind=5∧(aH s).text=c
  ·rw[if_pos hk] at ht;cases ht
  ·rw[if_neg hk]
 ·have hs:=pn h hx;unfold a8;rw[hs.2.1,if_neg (HS he' hc)]
theorem Pj (x:List UInt8):(iS x s').1=(iS x s).1∧Sw (e::Q1) (e'::Q1') d (iS x s).2 (iS x s').2:=by
 obtain⟨R,h1,h2,h3,h4,h5⟩:=h;unfold iS;rw[h5]
 cases nF x s.names with
 | some n=>exact⟨rfl,R,h1,h2,h3,h4,h5⟩
 | none=>
   dsimp only;refine⟨by rw[h4],R,h1,h2,h3,by dsimp only;rw[h4],?_⟩;dsimp only;rw[h4]
include he he' in
theorem Ni (T:List bM):cP T (aH s')=cP T (aH s):=by
 by_cases hx:Q1.length+1 < s.rest.length
 ·rw[ou h hx]
 ·have hs:=pn h hx;rw[hs.1,hs.2.1,oQ he,oQ he']
include he he' in
theorem GX (T:List bM):fC T s'=fC T s:=by
 by_cases hx:Q1.length+1 < s.rest.length
 ·unfold fC;rw[ou h hx]
 ·have hs:=pn h hx
  have st:∀{x:eS},pS x→(if x.kind=0∨x.kind=6 then false else if x.kind=5 then decide (x.text=[40])||decide (x.text=[91])||decide (x.text=[123]) else if !ey x||x.gS then true else !(bZ T x.text false).2||(bZ T x.text true).2)=false:=fun {x} hx=>by
   rcases hx with h | ⟨h,h2⟩
   ·rw[if_pos (.inr h)]
   ·rw[if_neg (by rw[h];decide),if_pos h,h2];rfl
  unfold fC;rw[hs.1,hs.2.1,st he,st he']
end
def T8 (Q1 Q1':List eS) (e e':eS) (d:Nat) (rec:Int→St→PR×St):Prop:=∀n s s',Sw (e::Q1) (e'::Q1') d s s'→(rec n s).1.2.2=true→Q1.length+1≤(rec n s).2.rest.length→(rec n s').1=(rec n s).1∧Sw (e::Q1) (e'::Q1') d (rec n s).2 (rec n s').2
variable {rec:Int→St→PR×St} (H:uA rec) (W:T8 Q1 Q1' e e' d rec)
include H W he'
theorem wx:∀(M:Nat) (acc:List Tm) (s s':St),Sw (e::Q1) (e'::Q1') d s s'→(br rec M acc s).1.2=true→Q1.length+1≤(br rec M acc s).2.rest.length→(br rec M acc s').1=(br rec M acc s).1∧Sw (e::Q1) (e'::Q1') d (br rec M acc s).2 (br rec M acc s').2
 | 0,acc,s,s',_,h,_=>by cases h
 | M+1,acc,s,s',hs,h,hl=>by
   unfold br at h hl ⊢;by_cases h1:(rec 999 s).1.2.2=true
   ·rw[if_pos h1] at h hl ⊢;by_cases h2:(a8 [44] (rec 999 s).2).1=true
    ·rw[if_pos h2] at h hl ⊢;have l1:=(im H M (acc++[(rec 999 s).1.1]) (a8 [44] (rec 999 s).2).2).1.len;have l2:=(iB [44] (rec 999 s).2).len;obtain⟨a1,a2⟩:=W 999 s s' hs h1 (by omega);obtain⟨b1,b2⟩:=po a2 h2 (by omega);rw[a1,if_pos h1,if_pos b1];exact wx M _ _ _ b2 h hl
    ·rw[if_neg h2] at hl ⊢;obtain⟨a1,a2⟩:=W 999 s s' hs h1 hl;have b:=vV he' a2 (c:=[44]) (by decide) (by simpa using h2);rw[a1,if_pos h1,b,if_neg (by simp)];exact⟨rfl,a2⟩
   ·rw[if_neg h1] at h;cases h
theorem MF (l:List Tm) (s s':St) (hs:Sw (e::Q1) (e'::Q1') d s s') (h:(gA rec l s).1.2=true) (hl:Q1.length+1≤(gA rec l s).2.rest.length):(gA rec l s').1=(gA rec l s).1∧Sw (e::Q1) (e'::Q1') d (gA rec l s).2 (gA rec l s').2:=by
 unfold gA at h hl ⊢;by_cases h1:(a8 [124] s).1=true
 ·rw[if_pos h1] at h hl ⊢;by_cases h2:(rec 999 (a8 [124] s).2).1.2.2=true
  ·rw[if_pos h2] at h hl ⊢;dsimp only at h hl ⊢;have l1:=(iB [93] (rec 999 (a8 [124] s).2).2).len;have l2:=(H.lv 999 (a8 [124] s).2).len;obtain⟨a1,a2⟩:=po hs h1 (by omega);obtain⟨b1,b2⟩:=W 999 _ _ a2 h2 (by omega);obtain⟨c1,c2⟩:=po b2 h hl;rw[if_pos a1,b1,if_pos h2,c1,h];exact⟨rfl,c2⟩
  ·rw[if_neg h2] at h;cases h
 ·rw[if_neg h1] at h hl ⊢;dsimp only at h hl ⊢;have a:=vV he' hs (c:=[124]) (by decide) (by simpa using h1);obtain⟨c1,c2⟩:=po hs h hl;rw[a,if_neg (by simp),c1,h];exact⟨rfl,c2⟩
theorem MM (M:Nat) (s s':St) (hs:Sw (e::Q1) (e'::Q1') d s s') (h:(gd rec M s).1.2=true) (hl:Q1.length+1≤(gd rec M s).2.rest.length):(gd rec M s').1=(gd rec M s).1∧Sw (e::Q1) (e'::Q1') d (gd rec M s).2 (gd rec M s').2:=by
 unfold gd at h hl ⊢;by_cases h1:(br rec M [] s).1.2=true
 ·rw[if_pos h1] at h hl ⊢;have l1:=(ER H (br rec M [] s).1.1 (br rec M [] s).2).1.len;obtain⟨a1,a2⟩:=wx he' H W M [] s s' hs h1 (by omega);rw[a1,if_pos h1];exact MF he' H W _ _ _ a2 h hl
 ·rw[if_neg h1] at h;cases h
theorem Bj (c:List UInt8) (f:Tm→Tm) (s s':St) (hs:Sw (e::Q1) (e'::Q1') d s s') (h:(eH rec c f s).1.2.2=true) (hl:Q1.length+1≤(eH rec c f s).2.rest.length):(eH rec c f s').1=(eH rec c f s).1∧Sw (e::Q1) (e'::Q1') d (eH rec c f s).2 (eH rec c f s').2:=by
 unfold eH at h hl ⊢;by_cases h1:(rec 1200 s).1.2.2=true
 ·rw[if_pos h1] at h hl ⊢;dsimp only at h hl ⊢;have l1:=(iB c (rec 1200 s).2).len;obtain⟨a1,a2⟩:=W 1200 s s' hs h1 (by omega);obtain⟨c1,c2⟩:=po a2 h hl;rw[a1,if_pos h1,c1,h];exact⟨rfl,c2⟩
 ·rw[if_neg h1] at h;cases h
theorem Mm (M:Nat) (x:List UInt8) (s s':St) (hs:Sw (e::Q1) (e'::Q1') d s s') (h:(ix rec M x s).1.2.2=true) (hl:Q1.length+1≤(ix rec M x s).2.rest.length):(ix rec M x s').1=(ix rec M x s).1∧Sw (e::Q1) (e'::Q1') d (ix rec M x s).2 (ix rec M x s').2:=by
 unfold ix at h hl ⊢;by_cases h1:(br rec M [] s).1.2=true
 ·rw[if_pos h1] at h hl ⊢;dsimp only at h hl ⊢;have l1:=(iB [41] (br rec M [] s).2).len;obtain⟨a1,a2⟩:=wx he' H W M [] s s' hs h1 (by omega);obtain⟨c1,c2⟩:=po a2 h hl;rw[a1,if_pos h1,c1,h];exact⟨rfl,c2⟩
 ·rw[if_neg h1] at h;cases h
include he
theorem Nj (T:List bM) (M:Nat) (n:Int) (s s':St) (hs:Sw (e::Q1) (e'::Q1') d s s') (h:(dI rec T M n s).1.2.2=true) (hl:Q1.length+1≤(dI rec T M n s).2.rest.length):(dI rec T M n s').1=(dI rec T M n s).1∧Sw (e::Q1) (e'::Q1') d (dI rec T M n s).2 (dI rec T M n s').2:=by
 have hx:Q1.length+1 < s.rest.length:=by
  have o:=((mO H T M n s).2 h).pos;omega
 have hsee:=ou hs hx;have ha:=wX hs hx;have al:=cD s;unfold dI at h hl ⊢;rw[hsee];by_cases k4:(aH s).kind=4
 ·rw[if_pos k4,if_pos k4];exact⟨rfl,ha⟩
 rw[if_neg k4] at h hl ⊢;rw[if_neg k4];by_cases k3:(aH s).kind=3
 ·rw[if_pos k3,if_pos k3];obtain⟨a1,a2⟩:=Pj ha (aH s).text;rw[a1];exact⟨rfl,a2⟩
 rw[if_neg k3] at h hl ⊢;rw[if_neg k3];by_cases c1:(aH s).kind=5∧(aH s).text=[40]
 ·rw[if_pos c1] at h hl ⊢;rw[if_pos c1];exact Bj he' H W _ _ _ _ ha h hl
 rw[if_neg c1] at h hl ⊢;rw[if_neg c1];by_cases c2:(aH s).kind=5∧(aH s).text=[91]
 ·rw[if_pos c2] at h hl ⊢;rw[if_pos c2];obtain⟨a1,a2⟩:=MM he' H W M _ _ ha h hl;rw[a1];exact⟨rfl,a2⟩
 rw[if_neg c2] at h hl ⊢;rw[if_neg c2];by_cases c3:(aH s).kind=5∧(aH s).text=[123]
 ·rw[if_pos c3] at h hl ⊢;rw[if_pos c3];exact Bj he' H W _ _ _ _ ha h hl
 rw[if_neg c3] at h hl ⊢;rw[if_neg c3];by_cases c4:(!ey (aH s))=true
 ·rw[if_pos c4] at h;cases h
 rw[if_neg c4] at h hl ⊢;rw[if_neg c4];by_cases c5:(aH s).gS=true
 ·rw[if_pos c5] at h hl ⊢;rw[if_pos c5];have l1:=(zl H M (aH s).text (ax (ax s))).1.len;have l2:=cD (ax s);exact Mm he' H W M _ _ _ (wX ha (by omega)) h hl
 rw[if_neg c5] at h hl ⊢;rw[if_neg c5]
 have hk:(aH (ax s')).kind=4↔(aH (ax s)).kind=4:=by
  by_cases hy:Q1.length+1 < (ax s).rest.length
  ·rw[ou ha hy]
  ·have hz:=pn ha hy;rw[hz.1,hz.2.1];exact⟨fun g=>absurd g (xS he').2.2,fun g=>absurd g (xS he).2.2⟩
 by_cases c6:(aH s).kind=1∧(aH s).text=[45]∧(aH (ax s)).kind=4∧(aH s).Nx=true
 ·have c6':(aH s).kind=1∧(aH s).text=[45]∧(aH (ax s')).kind=4∧(aH s).Nx=true:=⟨c6.1,c6.2.1,hk.2 c6.2.2.1,c6.2.2.2⟩
  rw[if_pos c6] at h hl ⊢;rw[if_pos c6'];have l2:=cD (ax s)
  have hy:Q1.length+1 < (ax s).rest.length:=by
   have:=bH (st:=ax s) (by rw[c6.2.2.1];decide);change Q1.length+1≤(ax (ax s)).rest.length at hl;omega
  rw[ou ha hy];exact⟨rfl,wX ha hy⟩
 have c6':¬ ((aH s).kind=1∧(aH s).text=[45]∧(aH (ax s')).kind=4∧(aH s).Nx=true):=fun g=>c6 ⟨g.1,g.2.1,hk.1 g.2.2.1,g.2.2.2⟩
 rw[if_neg c6] at h hl ⊢;rw[if_neg c6'];unfold b9 at h hl ⊢;rw[GX he he' ha];by_cases d1:(aH s).kind=2
 ·rw[if_pos d1,if_pos d1];exact⟨rfl,ha⟩
 rw[if_neg d1] at h hl ⊢;rw[if_neg d1];by_cases d2:((bZ T (aH s).text true).2&&decide ((bZ T (aH s).text true).1.l≤n)&&fC T (ax s))=true
 ·rw[if_pos d2] at h hl ⊢;rw[if_pos d2];obtain⟨a1,a2⟩:=W _ _ _ ha h hl;rw[a1];exact⟨rfl,a2⟩
 ·rw[if_neg d2,if_neg d2];exact⟨rfl,ha⟩
theorem FZ (T:List bM):∀(M:Nat) (n:Int) (r:PR) (s s':St),Sw (e::Q1) (e'::Q1') d s s'→(dQ rec T M n r s).1.2.2=true→Q1.length+1≤(dQ rec T M n r s).2.rest.length→(dQ rec T M n r s').1=(dQ rec T M n r s).1∧Sw (e::Q1) (e'::Q1') d (dQ rec T M n r s).2 (dQ rec T M n r s').2
 | 0,n,r,s,s',hs,_,_=>⟨rfl,hs⟩
 | M+1,n,r,s,s',hs,h,hl=>by
   have hb:=Ni he he' hs T;unfold dQ at h hl ⊢;rw[hb];by_cases h0:(!r.2.2)=true
   ·rw[if_pos h0,if_pos h0];exact⟨rfl,hs⟩
   rw[if_neg h0] at h hl ⊢;rw[if_neg h0];by_cases h1:(!(cP T (aH s)).2||decide (n < (cP T (aH s)).1.l)||decide ((a7 (cP T (aH s)).1).1 < r.2.1))=true
   ·rw[if_pos h1,if_pos h1];exact⟨rfl,hs⟩
   rw[if_neg h1] at h hl ⊢;rw[if_neg h1]
   have hx:Q1.length+1 < s.rest.length:=by
    refine Decidable.byContradiction fun hx=>h1 ?_
    rw[(pn hs hx).1,oQ he];rfl
   have l1:=(gY H T M n (cb (aH s).text [r.1,(rec (a7 (cP T (aH s)).1).2 (ax s)).1.1],(cP T (aH s)).1.l,(rec (a7 (cP T (aH s)).1).2 (ax s)).1.2.2) (rec (a7 (cP T (aH s)).1).2 (ax s)).2).1.len;have l2:=((gY H T M n (cb (aH s).text [r.1,(rec (a7 (cP T (aH s)).1).2 (ax s)).1.1],(cP T (aH s)).1.l,(rec (a7 (cP T (aH s)).1).2 (ax s)).1.2.2) (rec (a7 (cP T (aH s)).1).2 (ax s)).2).2 h).1;obtain⟨a1,a2⟩:=W _ _ _ (wX hs hx) l2 (by omega);rw[ou hs hx,a1];exact FZ T M n _ _ _ a2 h hl
end
theorem EM {Q1 Q1':List eS} {e e':eS} {d:Nat} (he:pS e) (he':pS e') (T:List bM):∀N,T8 Q1 Q1' e e' d (fu T N)
 | 0=>fun n s s' _ h _=>by cases h
 | N+1=>fun n s s' hs h hl=>by
   have H:=mN T N;have W:T8 Q1 Q1' e e' d (fu T N):=EM he he' T N;unfold fu at h hl ⊢;have l1:=(gY H T (N+1) n (dI (fu T N) T (N+1) n s).1 (dI (fu T N) T (N+1) n s).2).1.len;have l2:=((gY H T (N+1) n (dI (fu T N) T (N+1) n s).1 (dI (fu T N) T (N+1) n s).2).2 h).1;obtain⟨a1,a2⟩:=Nj he he' H W T (N+1) n s s' hs l2 (by omega);rw[a1];exact FZ he he' H W T (N+1) n _ _ _ a2 h hl
theorem Jg {Q1 Q1':List eS} {e e':eS} {d:Nat} (he:pS e) (he':pS e') (T:List bM) {n:Int} {s s':St} (hs:Sw (e::Q1) (e'::Q1') d s s') (h:(ae T n s).1.2.2=true) (hl:Q1.length+1≤(ae T n s).2.rest.length):(ae T n s').1=(ae T n s).1∧Sw (e::Q1) (e'::Q1') d (ae T n s).2 (ae T n s').2:=by
 have a1:fu T (max s.rest.length s'.rest.length+1) n s=ae T n s:=zU T (by omega) n;have a2:fu T (max s.rest.length s'.rest.length+1) n s'=ae T n s':=zU T (by omega) n;rw[←a1] at h hl ⊢;rw[←a2];exact EM he he' T _ n s s' hs h hl
end Go.Proofs.YtjmeonoabiliiaaGreatDoor

namespace Sz
theorem LO (o:bf):eR (fun i=>i) o=o:=by
 cases o with
 | dead=>rfl
 | row cs=>
   simp only[eR];congr 1;conv=>rhs;rw[←List.map_id cs]
   exact List.map_congr_left fun v _=>xb
 | map es=>
   simp only[eR];congr 1;conv=>rhs;rw[←List.map_id es]
   exact List.map_congr_left fun e _=>by rw[xb,xb];rfl
theorem Df {P:Go.Program} {X:Go.World→Prop} {E:Env} (hE:bW P X E) {n f:Nat} {rest:List AV} {os:List bf} {v:AV} {h1:aa} (he:au E n f (.ptr 0 0::rest) (tI os)=some (v,h1)) (hg:∀i,i < os.length→h1.get i=os[i]?)
 (hv:v.refs=0) (hr:AV.ai rest=0) (h0:0 < os.length) (hc:∀o ∈ os,xJ os.length o=true):bX P X f (.ptr 0 0::rest) os v none:=
 vh (qs:=[]) hE he hv (fun a ha=>by
  rcases List.mem_cons.1 ha with rfl | ha
  ·exact decide_eq_true h0
  ·exact jJ _ (by have:=AV.cA ha;omega)) (Nat.le_refl _) (vp (by simp) (by simp) (by simp) fun i o ho _=>by
   simp only[Option.getD] at ho;obtain⟨hi,rfl⟩:=List.getElem?_eq_some_iff.1 ho;have hl:=hc _ (List.getElem_mem hi);refine⟨?_,hl⟩
   have e:eR (nJ os.length []) os[i]=os[i]:=by
    rw[BA (g':=fun i=>i) (fun j hj=>by unfold nJ;rw[if_pos hj]) hl,LO]
   rw[e];have e2:nJ os.length [] i=i:=by unfold nJ;rw[if_pos hi]
   rw[e2,hg i hi];exact List.getElem?_eq_getElem hi)
end Sz
namespace Go.Proofs.YtjmeonoabiliiaaGreatDoor
open Go Sz
def u0 (ps:List (Int×Int)):Bool:=ps.all fun p=>decide (0≤p.2)&&decide (p.2 < 1000000000)
structure Wr where
 T:List bM
 b:Bool
 ps:List (Int×Int)
theorem L7 (a b:List UInt8):(a==b)=decide (a=b):=by
 by_cases h:a=b
 ·subst h;simp
 ·rw[decide_eq_false h];simpa using h
end Go.Proofs.YtjmeonoabiliiaaGreatDoor

namespace Sz
theorem vg {P:Go.Program} {X:Go.World→Prop} {E:Env} (hE:bW P X E) {n f:Nat} {rest:List AV} {os os':List bf} {v:AV} {h1:aa} {qs:List Nat} (he:au E n f (.ptr 0 0::rest) (tI os)=some (v,h1)) (hv:v.refs=0)
 (hr:AV.ai rest=0) (h0:0 < os.length) (hle:os.length≤os'.length) (hs:xx h1 (nJ os.length qs) os'):bX P X f (.ptr 0 0::rest) os v (some os'):=
 vh hE he hv (fun a ha=>by
  rcases List.mem_cons.1 ha with rfl | ha
  ·exact decide_eq_true h0
  ·exact jJ _ (by have:=AV.cA ha;omega)) hle hs
end Sz
namespace Go.Proofs.YtjmeonoabiliiaaGreatDoor
open Go Sz
def aj (l:List (List UInt8×Int)):List AV:=l.flatMap fun p=>[.str p.1,.int .i64 p.2]
theorem mu (l:List (List UInt8×Int)):(aj l).length=l.length*2:=by
 induction l with
 | nil=>rfl
 | cons p r ih=>simp[aj] at ih ⊢;omega
theorem ah (l:List (List UInt8×Int)):AV.ai (aj l)=0:=by
 induction l with
 | nil=>rfl
 | cons p r ih=>
   have e:aj (p::r)=.str p.1::.int .i64 p.2::aj r:=rfl;rw[e];simp only[AV.ai,ih,AV.refs];rfl
theorem D8 (l:List (List UInt8×Int)) (p:List UInt8×Int):aj (l++[p])=aj l++[.str p.1,.int .i64 p.2]:=by simp[aj]
def uF:List AV→Option (List (List UInt8×Int))
 | []=>some []
 | .str s::.int .i64 n::r=>(uF r).map ((s,n)::·)
 | _=>none
theorem BL:∀l,uF (aj l)=some l
 | []=>rfl
 | p::r=>by
   have e:aj (p::r)=.str p.1::.int .i64 p.2::aj r:=rfl;rw[e,uF,BL r];rfl
theorem yx:∀{xs:List AV} {l:List (List UInt8×Int)},uF xs=some l→xs=aj l
 | [],l,h=>by simp[uF] at h;subst h;rfl
 | x::r,l,h=>by
   unfold uF at h;split at h
   ·rename_i he;cases he
   ·rename_i s n q he;cases he;simp only[Option.map_eq_some_iff] at h;obtain⟨a,h1,rfl⟩:=h;rw[yx h1];rfl
   ·cases h
def kl (k:Nat) (l:List (List UInt8×Int)):AV:=match l with
 | []=>.aw
 | _::_=>.vec k 0 l.length 2 l.length
def rz (l:List (List UInt8×Int)):List bf:=match l with
 | []=>[]
 | _::_=>[.row (aj l)]
def MH:AV→List bf→Option (List (List UInt8×Int))
 | .aw,[]=>some []
 | .vec 1 0 n 2 m,[.row F]=>(match uF F with
   | some l=>if l≠[]∧n=l.length∧m=l.length then some l else none
   | none=>none)
 | _,_=>none
theorem Mh (l:List (List UInt8×Int)):MH (kl 1 l) (rz l)=some l:=by
 cases l with
 | nil=>rfl
 | cons p r=>
   show (match uF (aj (p::r)) with | some l=>if l≠[]∧(p::r).length=l.length∧(p::r).length=l.length then some l else none | none=>none)=_;rw[BL];exact if_pos ⟨by simp,rfl,rfl⟩
theorem I7 {v:AV} {os:List bf} {l:List (List UInt8×Int)} (h:MH v os=some l):v=kl 1 l∧os=rz l:=by
 unfold MH at h;split at h
 ·cases h;exact⟨rfl,rfl⟩
 ·split at h
  ·rename_i l' hl;split at h
   ·rename_i hc;cases h;obtain⟨h1,rfl,rfl⟩:=hc;rw[yx hl]
    cases l with
    | nil=>exact absurd rfl h1
    | cons p r=>exact⟨rfl,rfl⟩
   ·cases h
  ·cases h
 ·cases h
def ri:AV→Option Tok
 | .agg [.int .i64 k,.str t,.int .i64 n,.bool o,.int .i64 a]=>some ⟨k,t,n,o,a⟩
 | _=>none
theorem yv (t:Tok):ri t.enc=some t:=rfl
theorem rB {v:AV} {t:Tok} (h:ri v=some t):v=t.enc:=by
 unfold ri at h;split at h
 ·cases h;rfl
 ·cases h
def tG:List AV→Option (List Tok)
 | []=>some []
 | v::r=>match ri v,tG r with
   | some t,some l=>some (t::l)
   | _,_=>none
theorem xj:∀l:List Tok,tG (l.map Tok.enc)=some l
 | []=>rfl
 | t::r=>by
   show (match ri t.enc,tG (r.map Tok.enc) with | some t,some l=>some (t::l) | _,_=>none)=_;rw[yv,xj r]
theorem yZ:∀{xs:List AV} {l:List Tok},tG xs=some l→xs=l.map Tok.enc
 | [],l,h=>by cases h;rfl
 | v::r,l,h=>by
   unfold tG at h;split at h
   ·rename_i o os h1 h2;cases h;rw[rB h1,yZ h2];rfl
   ·cases h
def bz:AV→Option (List Tok)
 | .aw=>some []
 | .sl xs=>tG xs
 | _=>none
theorem ox {y:AV} {l:List Tok} (h:bz y=some l):(y=.aw∧l=[])∨y=.sl (l.map Tok.enc):=by
 cases y<;>simp[bz] at h
 ·exact .inl ⟨rfl,h⟩
 ·exact .inr (by rw[yZ h])
theorem tz (l:List Tok):bz (jz l)=some l:=by
 cases l with
 | nil=>rfl
 | cons t r=>exact xj (t::r)
structure Laid (x:AV):Prop where
 refs:x.refs=0
 top:x.top=none
 ok:∀τ,okV τ x=true
 sg:∀g,sig g x=x
 fr:∀h n d,hO h n (d+1) x=some (x,[])
 cl:x.cells=[x]
 UB:x.cells? =some [x]
theorem yB:Laid .aw:=⟨rfl,rfl,fun _=>rfl,fun _=>rfl,fun _ _ _=>rfl,rfl,rfl⟩
theorem FX (xs:List AV):Laid (.sl xs):=⟨rfl,rfl,fun _=>rfl,fun _=>rfl,fun _ _ _=>rfl,rfl,rfl⟩
theorem bG {x:AV} {T:List bM} (h:bD x=some T):Laid x:=by
 rcases jQ h with⟨rfl,_⟩ | rfl
 ·exact yB
 ·exact FX _
theorem bu {y:AV} {L:List Tok} (h:bz y=some L):Laid y:=by
 rcases ox h with⟨rfl,_⟩ | rfl
 ·exact yB
 ·exact FX _
theorem JU (l:List (List UInt8×Int)) (τ:List Nat):(aj l).all (okV τ)=true:=by
 rw[List.all_eq_true];intro v hv;obtain⟨p,_,hp⟩:=List.mem_flatMap.1 hv;simp only[List.mem_cons,List.not_mem_nil,or_false] at hp;rcases hp with rfl | rfl<;>rfl
theorem JC (l:List (List UInt8×Int)) (g:Nat→Nat):(aj l).map (sig g)=aj l:=by
 conv=>rhs;rw[←List.map_id (aj l)]
 refine List.map_congr_left fun v hv=>?_
 obtain⟨p,_,hp⟩:=List.mem_flatMap.1 hv;simp only[List.mem_cons,List.not_mem_nil,or_false] at hp;rcases hp with rfl | rfl<;>rfl
structure RC (T:List bM) (L:List Tok) (st:St):Prop where
 rest:st.rest=(iR L).drop st.at_
 le:st.at_≤L.length+1
 nx:st.next≤st.at_
 nm:st.names.length≤st.next
 lb:L.length≤100000
 tb:T.length < 1000000
 tk:(iR L).all mi=true
 rg:∀p ∈ st.names,0≤p.2∧p.2 < st.next
 GF:zV st.names=true
 rF:(L.all fun t=>decide (0≤t.at_)&&decide (t.at_ < 1000000))=true
structure Rd where
 x:AV
 y:AV
 T:List bM
 L:List Tok
 st:St
noncomputable def qh:List bf→Option Rd
 | .row [x,y,.int .i64 a,.int .i64 b,v]::os=>(match bD x,bz y,MH v os with
   | some T,some L,some l=>open Classical in if 0≤a∧0≤b∧RC T L ⟨a.toNat,(iR L).drop a.toNat,b.toNat,l⟩ then some ⟨x,y,T,L,⟨a.toNat,(iR L).drop a.toNat,b.toNat,l⟩⟩ else none
   | _,_,_=>none)
 | _=>none
def c8 (x y:AV) (st:St):List bf:=.row [x,y,.int .i64 st.at_,.int .i64 st.next,kl 1 st.names]::rz st.names
theorem iy {x y:AV} {T:List bM} {L:List Tok} {st:St} (hx:bD x=some T) (hy:bz y=some L) (h:RC T L st):qh (c8 x y st)=some ⟨x,y,T,L,st⟩:=by
 have e:(⟨(st.at_:Int).toNat,(iR L).drop (st.at_:Int).toNat,(st.next:Int).toNat,st.names⟩:St)=st:=by
  rw[Int.toNat_natCast,Int.toNat_natCast,←h.rest]
 unfold c8 qh;simp only[hx,hy,Mh];rw[e];exact if_pos ⟨by omega,by omega,h⟩
theorem gN {os:List bf} {R:Rd} (h:qh os=some R):bD R.x=some R.T∧bz R.y=some R.L∧os=c8 R.x R.y R.st∧RC R.T R.L R.st:=by
 unfold qh at h;split at h
 ·rename_i x y a b v os;split at h
  ·rename_i T L l h1 h2 h3;split at h
   ·rename_i hc;cases h;obtain⟨rfl,rfl⟩:=I7 h3;refine⟨h1,h2,?_,hc.2.2⟩;unfold c8;dsimp only;rw[Int.toNat_of_nonneg hc.1,Int.toNat_of_nonneg hc.2.1]
   ·cases h
  ·cases h
 ·cases h
def db (x y:AV) (l:List (List UInt8×Int)) (st':St):List bf:=match l with
 | []=>c8 x y st'
 | _::_=>[.row [x,y,.int .i64 st'.at_,.int .i64 st'.next,kl 2 st'.names],.dead,.row (aj st'.names)]
theorem pD {x y:AV} (hx:Laid x) (hy:Laid y) (g:Nat→Nat) (a b:Int) (v:AV):eR g (.row [x,y,.int .i64 a,.int .i64 b,v])=.row [x,y,.int .i64 a,.int .i64 b,sig g v]:=by
 show bf.row [sig g x,sig g y,.int .i64 a,.int .i64 b,sig g v]=_;rw[hx.sg,hy.sg]
theorem rX {x y:AV} (hx:Laid x) (hy:Laid y) {n:Nat} (a b:Int) {v:AV} (hv:nk n v=true):xJ n (.row [x,y,.int .i64 a,.int .i64 b,v])=true:=by
 simp only[xJ,List.all_cons,List.all_nil,Bool.and_true,jJ n hx.refs,jJ n hy.refs,hv];rfl
theorem cW {x y:AV} (hx:Laid x) (hy:Laid y) (a b:Int):fc [x,y,.int .i64 a,.int .i64 b,.aw] [0]=[0]:=by
 simp only[fc,hx.top,hy.top];rfl
theorem cV {x y:AV} (hx:Laid x) (hy:Laid y) (a b:Int) (k l:Nat) (hk:(0=k)=False):fc [x,y,.int .i64 a,.int .i64 b,.vec k 0 l 2 l] [0]=[0,k]:=by
 simp only[fc,hx.top,hy.top];show (if p7 [0] k then ([0]:List Nat) else [0,k])=_;simp only[p7,hk,if_false];rfl
theorem cU {x y:AV} (hx:Laid x) (hy:Laid y) (τ:List Nat) (a b:Int):okO τ (.row [x,y,.int .i64 a,.int .i64 b,.aw])=true:=by
 simp only[okO,List.all_cons,List.all_nil,hx.ok,hy.ok];rfl
theorem cX {x y:AV} (hx:Laid x) (hy:Laid y) (τ:List Nat) (a b:Int) (k l:Nat):okO τ (.row [x,y,.int .i64 a,.int .i64 b,.vec k 0 l 2 l])=p7 τ k:=by
 simp only[okO,List.all_cons,List.all_nil,hx.ok,hy.ok];show (true&&(true&&(true&&(true&&(p7 τ k&&true)))))=_;simp
theorem cZ {x y:AV} (hx:Laid x) (hy:Laid y) (g:Nat→Nat) (a b:Int):eR g (.row [x,y,.int .i64 a,.int .i64 b,.aw])=.row [x,y,.int .i64 a,.int .i64 b,.aw]:=pD hx hy g a b .aw
theorem cY {x y:AV} (hx:Laid x) (hy:Laid y) (g:Nat→Nat) (a b:Int) (k l:Nat):eR g (.row [x,y,.int .i64 a,.int .i64 b,.vec k 0 l 2 l])=.row [x,y,.int .i64 a,.int .i64 b,.vec (g k) 0 l 2 l]:=pD hx hy g a b _
theorem aG (l:List (List UInt8×Int)) (τ:List Nat):okO τ (.row (aj l))=true:=JU l τ
theorem aF (l:List (List UInt8×Int)) (g:Nat→Nat):eR g (.row (aj l))=.row (aj l):=congrArg bf.row (JC l g)
section
variable {X:World→Prop} {P:Program} {E:Env} (hE:bW P X E) {n f:Nat} {rest:List AV} {x y v:AV} {st st':St} (hx:Laid x) (hy:Laid y)
include hE hx hy
theorem c7 (h0:st.names=[]) (h1:st'.names=[]) (he:(au E n f (.ptr 0 0::rest) (tI [.row [x,y,.int .i64 st.at_,.int .i64 st.next,.aw]])).map (fun p=>(p.1,p.2.get 0))=some (v,some (.row [x,y,.int .i64 st'.at_,.int .i64 st'.next,.aw])))
 (hv:v.refs=0) (hr:AV.ai rest=0):bX P X f (.ptr 0 0::rest) (c8 x y st) v (some (db x y st.names st')):=by
 have e1:c8 x y st=[.row [x,y,.int .i64 st.at_,.int .i64 st.next,.aw]]:=by unfold c8;rw[h0];rfl
 have e2:db x y st.names st'=[.row [x,y,.int .i64 st'.at_,.int .i64 st'.next,.aw]]:=by unfold db;rw[h0];unfold c8;rw[h1];rfl
 rw[e1,e2];exact o8 hE he hv hr (by simp[AV.ai,hx.refs,hy.refs,AV.refs])
theorem dv (k:Nat) (hk:1≤k) (h0:st.names=[]) (h1:st'.names≠[]) (he:(au E n f (.ptr 0 0::rest) (tI [.row [x,y,.int .i64 st.at_,.int .i64 st.next,.aw]])).map (fun p=>(p.1,p.2.get 0,p.2.get k))=
 some (v,some (.row [x,y,.int .i64 st'.at_,.int .i64 st'.next,.vec k 0 st'.names.length 2 st'.names.length]),some (.row (aj st'.names))))
 (hv:v.refs=0) (hr:AV.ai rest=0):bX P X f (.ptr 0 0::rest) (c8 x y st) v (some (db x y st.names st')):=by
 have e1:c8 x y st=[.row [x,y,.int .i64 st.at_,.int .i64 st.next,.aw]]:=by unfold c8;rw[h0];rfl
 have e2:db x y st.names st'=[.row [x,y,.int .i64 st'.at_,.int .i64 st'.next,.vec 1 0 st'.names.length 2 st'.names.length],.row (aj st'.names)]:=by
  unfold db;rw[h0];unfold c8 kl rz
  cases hn:st'.names with
  | nil=>exact absurd hn h1
  | cons p r=>rfl
 rw[e1,e2];obtain⟨⟨v1,h⟩,g1,g2⟩:=Option.map_eq_some_iff.1 he;simp only[Prod.mk.injEq] at g2;obtain⟨rfl,g3,g4⟩:=g2;refine vg (qs:=[k]) hE g1 hv hr (by simp) (by simp) ⟨fun i o ho _=>?_,fun i j o o' hi hj _ _ e=>?_⟩
 ·match i,ho with
  | 0,ho=>
    simp only[List.getElem?_cons_zero,Option.some.injEq] at ho;subst ho;rw[pD hx hy];exact⟨g3,rX hx hy _ _ (by rfl)⟩
  | 1,ho=>
    simp only[List.getElem?_cons_succ,List.getElem?_cons_zero,Option.some.injEq] at ho;subst ho;rw[mH _ (ah _)];exact⟨g4,kN _ (ah _)⟩
  | i+2,ho=>simp at ho
 ·have hi':=(List.getElem?_eq_some_iff.1 hi).1;have hj':=(List.getElem?_eq_some_iff.1 hj).1;simp only[List.length_cons,List.length_nil] at hi' hj'
  have r0:∀i,i < 2→nJ 1 [k] i=if i=0 then 0 else k:=fun i hi=>by
   match i,hi with
   | 0,_=>rfl
   | 1,_=>rfl
  rw[List.length_cons,List.length_nil,r0 i hi',r0 j hj'] at e;split at e<;>split at e<;>omega
theorem cJ (k:Nat) (hk:1≤k) (h0:st.names≠[]) (h1:st'.names≠[]) (he:(au E n f (.ptr 0 0::rest) (tI [.row [x,y,.int .i64 st.at_,.int .i64 st.next,.vec 1 0 st.names.length 2 st.names.length],.row (aj st.names)])).map (fun p=>(p.1,p.2.get 0,p.2.get k))=
 some (v,some (.row [x,y,.int .i64 st'.at_,.int .i64 st'.next,.vec k 0 st'.names.length 2 st'.names.length]),some (.row (aj st'.names))))
 (hv:v.refs=0) (hr:AV.ai rest=0):bX P X f (.ptr 0 0::rest) (c8 x y st) v (some (db x y st.names st')):=by
 have e1:c8 x y st=[.row [x,y,.int .i64 st.at_,.int .i64 st.next,.vec 1 0 st.names.length 2 st.names.length],.row (aj st.names)]:=by
  unfold c8 kl rz
  cases hn:st.names with
  | nil=>exact absurd hn h0
  | cons p r=>rfl
 have e2:db x y st.names st'=[.row [x,y,.int .i64 st'.at_,.int .i64 st'.next,.vec 2 0 st'.names.length 2 st'.names.length],.dead,.row (aj st'.names)]:=by
  unfold db
  cases hn:st.names with
  | nil=>exact absurd hn h0
  | cons p r=>
    dsimp only;unfold kl
    cases hm:st'.names with
    | nil=>exact absurd hm h1
    | cons q s=>rfl
 rw[e1,e2];obtain⟨⟨v1,h⟩,g1,g2⟩:=Option.map_eq_some_iff.1 he;simp only[Prod.mk.injEq] at g2;obtain⟨rfl,g3,g4⟩:=g2;refine vg (qs:=[k]) hE g1 hv hr (by simp) (by simp) ⟨fun i o ho hd=>?_,fun i j o o' hi hj hdi hdj e=>?_⟩
 ·match i,ho with
  | 0,ho=>
    simp only[List.getElem?_cons_zero,Option.some.injEq] at ho;subst ho;rw[pD hx hy];exact⟨g3,rX hx hy _ _ (by rfl)⟩
  | 1,ho=>
    simp only[List.getElem?_cons_succ,List.getElem?_cons_zero,Option.some.injEq] at ho;exact absurd ho.symm hd
  | 2,ho=>
    simp only[List.getElem?_cons_succ,List.getElem?_cons_zero,Option.some.injEq] at ho;subst ho;rw[mH _ (ah _)];exact⟨g4,kN _ (ah _)⟩
  | i+3,ho=>simp at ho
 ·have pick:∀(i:Nat) (o:bf),([.row [x,y,.int .i64 st'.at_,.int .i64 st'.next,.vec 2 0 st'.names.length 2 st'.names.length],.dead,.row (aj st'.names)]:List bf)[i]? =some o→(∀_:o=.dead,False)→(i=0∧nJ 2 [k] i=0)∨(i=2∧nJ 2 [k] i=k):=fun i o ho hd=>by
   match i,ho with
   | 0,_=>exact .inl ⟨rfl,rfl⟩
   | 1,ho=>
     simp only[List.getElem?_cons_succ,List.getElem?_cons_zero,Option.some.injEq] at ho;exact absurd ho.symm hd
   | 2,_=>exact .inr ⟨rfl,rfl⟩
   | i+3,ho=>simp at ho
  simp only[List.length_cons,List.length_nil,Nat.zero_add] at e;rcases pick i o hi hdi with⟨a1,a2⟩ | ⟨a1,a2⟩<;>rcases pick j o' hj hdj with⟨b1,b2⟩ | ⟨b1,b2⟩<;>rw[a2,b2] at e<;>omega
end
end Go.Proofs.YtjmeonoabiliiaaGreatDoor

namespace Go.Proofs.YtjmeonoabiliiaaGreatDoor
open Go Sz
theorem oZ {y:AV} {L:List Tok} (hy:bz y=some L):∀(fr:List AV) (h:aa) (o:cI),o.ev fr=y→bE fr h (.uR o)=some (.int .i64 L.length,h):=fun fr h o ho=>by
 rw[eC,ho];rcases ox hy with⟨rfl,rfl⟩ | rfl
 ·rfl
 ·simp
def bm (L:List Tok) (st:St):Tok:=L.getD st.at_ rC
theorem bp {T:List bM} {L:List Tok} {st:St} (h:RC T L st):aH st=⟨(bm L st).kind,(bm L st).text,(bm L st).num,(bm L st).gS,M4 (bm L st) (L.drop (st.at_+1))⟩:=by
 unfold aH bm;rw[h.rest,y7];by_cases hl:st.at_ < L.length
 ·rw[List.drop_eq_getElem_cons hl];simp[iR,List.getD,hl]
 ·rw[List.drop_of_length_le (by omega),List.drop_of_length_le (by omega)];simp[iR,List.getD,show L.length≤st.at_ by omega,FG,rC,M4]
theorem KC {T:List bM} {L:List Tok} {st:St} (h:RC T L st):(st.at_ < L.length∧L[st.at_]? =some (bm L st))∨(L.length≤st.at_∧bm L st=rC):=by
 unfold bm;by_cases hl:st.at_ < L.length
 ·exact .inl ⟨hl,by simp[List.getD,hl]⟩
 ·exact .inr ⟨by omega,by simp[List.getD,show L.length≤st.at_ by omega]⟩
theorem eE {T:List bM} {L:List Tok} {st:St} (h:RC T L st) (hk:(aH st).kind≠0):st.at_ < L.length:=by
 rw[bp h] at hk;rcases KC h with⟨h1,_⟩ | ⟨_,h2⟩
 ·exact h1
 ·rw[h2] at hk;exact absurd rfl hk
theorem Od {T:List bM} {L:List Tok} {st:St} (h:RC T L st) (hl:st.at_≤L.length):st.at_+st.rest.length=L.length:=by
 rw[h.rest,List.length_drop,fF];omega
theorem RC.xu {T:List bM} {L:List Tok} {st:St} (h:RC T L st) (hl:st.at_≤L.length):RC T L (ax st):=by
 refine⟨?_,?_,?_,h.nm,h.lb,h.tb,h.tk,h.rg,h.GF,h.rF⟩
 ·show st.rest.tail=(iR L).drop (st.at_+1);rw[h.rest,List.tail_drop]
 ·show st.at_+1≤_;omega
 ·show st.next≤st.at_+1
  have:=h.nx;omega
theorem RC.ok {T:List bM} {L:List Tok} {st st':St} (h:RC T L st) (g:Ok st st'):RC T L st'∧st'.at_≤L.length:=by
 have hl:st.at_≤L.length:=by
  have hp:=g.pos;rw[h.rest,List.length_drop,fF] at hp;omega
 have t1:=Od h hl;have t2:=g.Rs;obtain⟨k,hk⟩:=g.lv.Oj;have hlen:st'.rest.length=st.rest.length - k:=by rw[hk,List.length_drop]
 have hpos:=g.pos;have:=g.SQ;have:=g.lv.nm;have:=g.lv.nx;have h1:=h.nx;have h2:=h.nm;have hkk:k≤st.rest.length∨st.rest.length < k:=by omega
 refine⟨⟨?_,by omega,by omega,by omega,h.lb,h.tb,h.tk,g.lv.rg h.rg,g.lv.GF h.GF,h.rF⟩,by omega⟩;rw[hk,h.rest,List.drop_drop];rcases hkk with hkk | hkk
 ·congr 1;omega
 ·have e1:(iR L).length=L.length:=fF L;rw[List.drop_of_length_le (by rw[e1];omega),List.drop_of_length_le (by rw[e1];omega)]
section
variable {X:World→Prop} {P:Program} {E:Env} (hE:bW P X E) {n f:Nat} {rest:List AV} {x y v:AV} {st st':St} (hx:Laid x) (hy:Laid y)
include hE hx hy
theorem tj (h1:st.names=[]→(au E n f (.ptr 0 0::rest) ⟨1,[.row [x,y,.int .i64 st.at_,.int .i64 st.next,.aw]],1,1⟩).map (fun p=>(p.1,p.2.get 0))=some (v,some (.row [x,y,.int .i64 st.at_,.int .i64 st.next,.aw])))
 (h2:st.names≠[]→(au E n f (.ptr 0 0::rest) ⟨2,[.row (aj st.names),.row [x,y,.int .i64 st.at_,.int .i64 st.next,.vec 1 0 st.names.length 2 st.names.length]],2,2⟩).map (fun p=>(p.1,p.2.get 0,p.2.get 1))=
  some (v,some (.row [x,y,.int .i64 st.at_,.int .i64 st.next,.vec 1 0 st.names.length 2 st.names.length]),some (.row (aj st.names))))
 (hv:v.refs=0) (hr:AV.ai rest=0):bX P X f (.ptr 0 0::rest) (c8 x y st) v none:=by
 by_cases h0:st.names=[]
 ·have e1:c8 x y st=[.row [x,y,.int .i64 st.at_,.int .i64 st.next,.aw]]:=by unfold c8;rw[h0];rfl
  rw[e1];obtain⟨⟨v1,h⟩,g1,g2⟩:=Option.map_eq_some_iff.1 (h1 h0);simp only[Prod.mk.injEq] at g2;obtain⟨rfl,g3⟩:=g2;exact yi hE g1 g3 hv hr (by simp[AV.ai,hx.refs,hy.refs,AV.refs])
 ·have e1:c8 x y st=[.row [x,y,.int .i64 st.at_,.int .i64 st.next,.vec 1 0 st.names.length 2 st.names.length],.row (aj st.names)]:=by
   unfold c8 kl rz
   cases hn:st.names with
   | nil=>exact absurd hn h0
   | cons p r=>rfl
  rw[e1];obtain⟨⟨v1,h⟩,g1,g2⟩:=Option.map_eq_some_iff.1 (h2 h0);simp only[Prod.mk.injEq] at g2;obtain⟨rfl,g3,g4⟩:=g2;refine Df hE g1 (fun i hi=>?_) hv hr (by simp) (fun o ho=>?_)
  ·match i,hi with
   | 0,_=>exact g3
   | 1,_=>exact g4
   | i+2,hi=>simp only[List.length_cons,List.length_nil] at hi;omega
  ·simp only[List.mem_cons,List.not_mem_nil,or_false] at ho;rcases ho with rfl | rfl
   ·exact rX hx hy _ _ (by rfl)
   ·exact kN _ (ah _)
theorem G8 (hnm:st'.names=st.names) (h1:st.names=[]→(au E n f (.ptr 0 0::rest) ⟨1,[.row [x,y,.int .i64 st.at_,.int .i64 st.next,.aw]],1,1⟩).map (fun p=>(p.1,p.2.get 0))=some (v,some (.row [x,y,.int .i64 st'.at_,.int .i64 st'.next,.aw])))
 (h2:st.names≠[]→(au E n f (.ptr 0 0::rest) ⟨2,[.row (aj st.names),.row [x,y,.int .i64 st.at_,.int .i64 st.next,.vec 1 0 st.names.length 2 st.names.length]],2,2⟩).map (fun p=>(p.1,p.2.get 0,p.2.get 1))=
  some (v,some (.row [x,y,.int .i64 st'.at_,.int .i64 st'.next,.vec 1 0 st.names.length 2 st.names.length]),some (.row (aj st.names))))
 (hv:v.refs=0) (hr:AV.ai rest=0):bX P X f (.ptr 0 0::rest) (c8 x y st) v (some (c8 x y st')):=by
 by_cases h0:st.names=[]
 ·have e1:c8 x y st=[.row [x,y,.int .i64 st.at_,.int .i64 st.next,.aw]]:=by unfold c8;rw[h0];rfl
  have e2:c8 x y st'=[.row [x,y,.int .i64 st'.at_,.int .i64 st'.next,.aw]]:=by unfold c8;rw[hnm,h0];rfl
  rw[e1,e2];exact o8 hE (h1 h0) hv hr (by simp[AV.ai,hx.refs,hy.refs,AV.refs])
 ·have e1:∀s:St,s.names=st.names→c8 x y s=[.row [x,y,.int .i64 s.at_,.int .i64 s.next,.vec 1 0 st.names.length 2 st.names.length],.row (aj st.names)]:=fun s hs=>by
   unfold c8 kl rz;rw[hs]
   cases hn:st.names with
   | nil=>exact absurd hn h0
   | cons p r=>rfl
  rw[e1 st rfl,e1 st' hnm];obtain⟨⟨v1,h⟩,g1,g2⟩:=Option.map_eq_some_iff.1 (h2 h0);simp only[Prod.mk.injEq] at g2;obtain⟨rfl,g3,g4⟩:=g2;refine vg (qs:=[]) hE g1 hv hr (by simp) (by simp) (vp (by simp) (by simp) (by simp) fun i o ho _=>?_)
  match i,ho with
  | 0,ho=>
    simp only[List.getElem?_cons_zero,Option.some.injEq] at ho;subst ho;rw[pD hx hy];exact⟨g3,rX hx hy _ _ (by rfl)⟩
  | 1,ho=>
    simp only[List.getElem?_cons_succ,List.getElem?_cons_zero,Option.some.injEq] at ho;subst ho;rw[mH _ (ah _)];exact⟨g4,kN _ (ah _)⟩
  | i+2,ho=>simp at ho
end
noncomputable def pG:bL:=⟨72,fun
 | [.ptr 0 0],os=>(match qh os with | some R=>some ((bm R.L R.st).enc,none) | none=>none)
 | _,_=>none⟩
theorem aX:pG.f=72:=(rfl)
theorem dc {x y:AV} {T:List bM} {L:List Tok} {st:St} (hx:bD x=some T) (hy:bz y=some L) (h:RC T L st):pG.S [.ptr 0 0] (c8 x y st)=some ((bm L st).enc,none):=by
 simp only[pG,iy hx hy h]
theorem E9 (v:AV) (hv:v=.aw∨∃k l,v=.vec k 0 l 2 l) (x y:AV) (T:List bM) (L:List Tok) (st:St) (hx:bD x=some T) (hy:bz y=some L) (h:RC T L st):
 (au (bj [] []) 4 72 [.ptr 0 0] ⟨1,[.row [x,y,.int .i64 st.at_,.int .i64 st.next,v]],1,1⟩=some ((bm L st).enc,⟨1,[.row [x,y,.int .i64 st.at_,.int .i64 st.next,v]],1,1⟩))∧
 ∀F,(au (bj [] []) 4 72 [.ptr 0 0] ⟨2,[.row F,.row [x,y,.int .i64 st.at_,.int .i64 st.next,v]],2,2⟩=some ((bm L st).enc,⟨2,[.row F,.row [x,y,.int .i64 st.at_,.int .i64 st.next,v]],2,2⟩)):=by
 have hly:=oZ hy;have hlb:=h.lb;have hte:(bm L st).enc=.agg [.int .i64 (bm L st).kind,.str (bm L st).text,.int .i64 (bm L st).num,.bool (bm L st).gS,.int .i64 (bm L st).at_]:=rfl;rcases KC h with⟨h1,h2⟩ | ⟨h1,h2⟩
 ·have h3:((L.length:Int)≤(st.at_:Int))=False:=eq_false (by omega)
  have hyl:y=.sl (L.map Tok.enc):=by
   rcases ox hy with⟨rfl,rfl⟩ | rfl
   ·simp at h1
   ·rfl
  subst hyl;have hc:(L.map Tok.enc)[st.at_]? =some (.agg [.int .i64 (bm L st).kind,.str (bm L st).text,.int .i64 (bm L st).num,.bool (bm L st).gS,.int .i64 (bm L st).at_]):=by rw[List.getElem?_map,h2];rfl
  have hUl:(L.map Tok.enc).length=L.length:=List.length_map _;have b0:(0:Int)≤(st.at_:Int):=by omega
  rw[hte];generalize bm L st=t at *;have h1':(L.length≤st.at_)=False:=eq_false (by omega);generalize L.map Tok.enc=U at *;refine⟨?_,fun F=>?_⟩
  ·simp[zR,c72,hUl,h3,h1',hc,b0]
  ·simp[zR,c72,hUl,h3,h1',hc,b0]
 ·have h3:((L.length:Int)≤(st.at_:Int))=True:=eq_true (by omega);rw[hte,h2];refine⟨?_,fun F=>?_⟩
  ·simp[zR,c72,hly,h3,rC,h1]
  ·simp[zR,c72,hly,h3,rC,h1]
theorem qV:dk Tryz.prog cm pG:=fun args os v r hv=>by
 unfold pG at hv;dsimp only at hv;split at hv
 ·rename_i os;split at hv
  ·rename_i R hR;cases hv;obtain⟨hx,hy,rfl,hc⟩:=gN hR;rw[aX];have hE:bW Tryz.prog cm (bj [] []):=eW (by simp) (by simp);refine tj (n:=4) hE (bG hx) (bu hy) (fun _=>?_) (fun _=>?_) (by simp[Tok.enc,Tok.cells,AV.refs,AV.ai]) rfl
   ·rw[(E9 .aw (.inl rfl) _ _ _ _ _ hx hy hc).1];rfl
   ·rw[(E9 (.vec 1 0 _ 2 _) (.inr ⟨1,_,rfl⟩) _ _ _ _ _ hx hy hc).2];rfl
  ·cases hv
 ·cases hv
def l6:aR:=⟨162,fun | [v]=>(ri v).map fun t=>.bool (decide (t.kind=1)||decide (t.kind=2)) | _=>none⟩
theorem bw:l6.f=162:=(rfl)
theorem eh (t:Tok):l6.S [.agg [.int .i64 t.kind,.str t.text,.int .i64 t.num,.bool t.gS,.int .i64 t.at_]]=some (.bool (decide (t.kind=1)||decide (t.kind=2))):=(rfl)
theorem xn:bC Tryz.prog l6:=fun args v hv=>by
 unfold l6 at hv ⊢;dsimp only at hv ⊢;split at hv
 ·obtain⟨t,ht,rfl⟩:=Option.map_eq_some_iff.1 hv;rw[rB ht];refine ct (n:=4) (h':=h0) (b8 (ss:=[]) (by simp)) ?_ rfl (by simp[Tok.enc,Tok.cells,AV.refs,AV.ai]);have hte:t.enc=.agg [.int .i64 t.kind,.str t.text,.int .i64 t.num,.bool t.gS,.int .i64 t.at_]:=rfl;rw[hte];by_cases h1:t.kind=1
  ·simp[C3,c162,h1]
  ·by_cases h2:t.kind=2
   ·simp[C3,c162,h2]
   ·simp[C3,c162,h1,h2]
 ·cases hv
def dA (T:List bM) (t:Tok):bM×Bool:=cP T ⟨t.kind,t.text,t.num,t.gS,false⟩
theorem mh {T:List bM} {L:List Tok} {st:St} (h:RC T L st):cP T (aH st)=dA T (bm L st):=by
 rw[bp h];rfl
noncomputable def xV:bL:=⟨121,fun
 | [.ptr 0 0,w],os=>(match qh os,ri w with | some R,some t=>some (.tuple [(dA R.T t).1.enc,.bool (dA R.T t).2],none) | _,_=>none)
 | _,_=>none⟩
theorem cF:xV.f=121:=(rfl)
theorem me {x y:AV} {T:List bM} {L:List Tok} {st:St} (hx:bD x=some T) (hy:bz y=some L) (h:RC T L st) (t:Tok):
 xV.S [.ptr 0 0,.agg [.int .i64 t.kind,.str t.text,.int .i64 t.num,.bool t.gS,.int .i64 t.at_]] (c8 x y st)=some (.tuple [(dA T t).1.enc,.bool (dA T t).2],none):=by
 have e:ri (.agg [.int .i64 t.kind,.str t.text,.int .i64 t.num,.bool t.gS,.int .i64 t.at_])=some t:=rfl;simp only[xV,iy hx hy h,e]
theorem AJ (x:AV) (T:List bM) (hx:bD x=some T) (hT:T.length < 1000000) (t:Tok) (y a b v:AV):
 (au (bj [l6,FE] []) 6 121 [.ptr 0 0,t.enc] ⟨1,[.row [x,y,a,b,v]],1,1⟩=some (.tuple [(dA T t).1.enc,.bool (dA T t).2],⟨1,[.row [x,y,a,b,v]],1,1⟩))∧
 ∀F,(au (bj [l6,FE] []) 6 121 [.ptr 0 0,t.enc] ⟨2,[.row F,.row [x,y,a,b,v]],2,2⟩=some (.tuple [(dA T t).1.enc,.bool (dA T t).2],⟨2,[.row F,.row [x,y,a,b,v]],2,2⟩)):=by
 have hl:=bG hx;have hte:t.enc=.agg [.int .i64 t.kind,.str t.text,.int .i64 t.num,.bool t.gS,.int .i64 t.at_]:=rfl;have q1:=eh t;have q2:=zr hx t.text (by omega);have hfx:=fun h=>hl.fr h 0 6
 have hxr:=hl.refs;rw[hte];unfold dA cP ey;simp only[bM.enc,bM.cells] at q2 ⊢
 have fin:∀s:List UInt8,t.text=s→∀e:Bool,(s==[44])=e→∀F:List AV,
  (au (bj [l6,FE] []) 6 121 [.ptr 0 0,.agg [.int .i64 t.kind,.str s,.int .i64 t.num,.bool t.gS,.int .i64 t.at_]] ⟨1,[.row [x,y,a,b,v]],1,1⟩=some (.tuple [.agg [.str (if !(decide (t.kind=1)||decide (t.kind=2))&&(!decide (t.kind=5)||!decide (s=[44])) then (gj,false) else bZ T s false).1.n,.str (if !(decide (t.kind=1)||decide (t.kind=2))&&(!decide (t.kind=5)||!decide (s=[44])) then (gj,false) else bZ T s false).1.k,.int .i64 (if !(decide (t.kind=1)||decide (t.kind=2))&&(!decide (t.kind=5)||!decide (s=[44])) then (gj,false) else bZ T s false).1.l],.bool (if !(decide (t.kind=1)||decide (t.kind=2))&&(!decide (t.kind=5)||!decide (s=[44])) then (gj,false) else bZ T s false).2],⟨1,[.row [x,y,a,b,v]],1,1⟩))∧
  (au (bj [l6,FE] []) 6 121 [.ptr 0 0,.agg [.int .i64 t.kind,.str s,.int .i64 t.num,.bool t.gS,.int .i64 t.at_]] ⟨2,[.row F,.row [x,y,a,b,v]],2,2⟩=some (.tuple [.agg [.str (if !(decide (t.kind=1)||decide (t.kind=2))&&(!decide (t.kind=5)||!decide (s=[44])) then (gj,false) else bZ T s false).1.n,.str (if !(decide (t.kind=1)||decide (t.kind=2))&&(!decide (t.kind=5)||!decide (s=[44])) then (gj,false) else bZ T s false).1.k,.int .i64 (if !(decide (t.kind=1)||decide (t.kind=2))&&(!decide (t.kind=5)||!decide (s=[44])) then (gj,false) else bZ T s false).1.l],.bool (if !(decide (t.kind=1)||decide (t.kind=2))&&(!decide (t.kind=5)||!decide (s=[44])) then (gj,false) else bZ T s false).2],⟨2,[.row F,.row [x,y,a,b,v]],2,2⟩)):=fun s hs e he F=>by
  rw[hs] at q1 q2;by_cases k1:t.kind=1
  ·simp[o9,Ae,bw,eJ,hfx,hxr,k1] at q1 ⊢;simp[o9,Ae,bw,eJ,hfx,hxr,k1,q1,q2]
  by_cases k2:t.kind=2
  ·simp[k1,k2] at q1 ⊢;simp[o9,Ae,bw,eJ,hfx,hxr,k1,k2,q1,q2]
  by_cases k5:t.kind=5
  ·rw[k5] at q1 ⊢
   cases e with
   | true=>
     have he':s=[44]:=by simpa using he
     subst he';simp at q1 ⊢;simp[o9,Ae,bw,eJ,hfx,hxr,q1,q2]
   | false=>
     have he':¬ s=[44]:=by simpa using he
     simp[he'] at q1 ⊢;simp[o9,Ae,bw,eJ,hfx,hxr,q1,q2,he,he',gj]
  ·simp[k1,k2,k5] at q1 ⊢;simp[o9,Ae,bw,eJ,hfx,hxr,k1,k2,k5,q1,q2,gj]
 exact⟨(fin t.text rfl _ rfl []).1,fun F=>(fin t.text rfl _ rfl F).2⟩
theorem IL:dk Tryz.prog cm xV:=fun args os v r hv=>by
 unfold xV at hv;dsimp only at hv;split at hv
 ·rename_i w os;split at hv
  ·rename_i R t hR ht;cases hv;obtain⟨hx,hy,rfl,hc⟩:=gN hR;rw[cF,rB ht];have hE:bW Tryz.prog cm (bj [l6,FE] []):=eW (by simp[xn.lift,CD.lift]) (by simp);refine tj (n:=6) hE (bG hx) (bu hy) (fun _=>?_) (fun _=>?_) (by simp[bM.enc,bM.cells,AV.refs,AV.ai]) (by simp[Tok.enc,Tok.cells,AV.refs,AV.ai])
   ·rw[(AJ _ _ hx hc.tb t _ _ _ _).1];rfl
   ·rw[(AJ _ _ hx hc.tb t _ _ _ _).2];rfl
  ·cases hv
 ·cases hv
end Go.Proofs.YtjmeonoabiliiaaGreatDoor
