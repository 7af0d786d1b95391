import Derived.Test.YtjmeonoabiliiaaGreatDoorAt
import Derived.Test.YtjmeonoabiliiaaGreatDoorBd1
set_option linter.all false
set_option maxHeartbeats 16000000
set_option maxRecDepth 100000
namespace Go.Proofs.YtjmeonoabiliiaaGreatDoor
open Go Sz
def Gx:List Tm->AV
 |[]=>.aF
 |x::r=>.sl ((x::r).map Tm.aL)
theorem me(us:List Tm)(x:Tm):ay (us++[x])=ay us++x.cells:=by simp[ay]
theorem K0(C:Nat->List AV->af->Option (AV×af))(n:Nat):∀(k:Nat) (t:Tm) (aM:List Tm) (m:Nat),t.size<=k->aM≠[]->aM.length+t.size<=1000000000->k<m->
 ∃md,il 2 0 (bP (aC C n ku) iW 2 m (YK (.ptr 0 0) (.vec 2 0 aM.length 4 aM.length) (.ptr 1 0)) ⟨3,[.row (ay aM),.row zT,.row t.cells],2,0⟩)=
   some (.exit 0,FM 35 [(1,.ptr 0 0),(2,.vec 2 0 (aM++(a8 t).1).length 4 (aM++(a8 t).1).length),(3,.ptr 1 0)],⟨3,[.row (ay (aM++(a8 t).1)),.row zT,.row (a8 t).2.cells],0,md⟩)
 |0,t,aM,m,h,_,_,_=>by have:=bJ t;omega
 |k+1,t,aM,m+1,h,eR,hs,hm=>by
   have hf:=aU aM;rw[ag]
   cases hd:hO t with
   |false=>
     rw[pn hd]
     cases t with
     |nl kk nn ss=>
       have hc:(Tm.nl kk nn ss).cells=[.int .i64 kk,.int .i64 nn,.str ss,.aF]:=rfl;by_cases h1:kk=2
       .subst h1
        cases h2:(ss==[46]) with
        |false=>exact⟨0,by simp[ku,iW,hc,h2,hf]⟩
        |true=>exact⟨0,by simp[ku,iW,hc,h2,hf]⟩
       .exact⟨0,by simp[ku,iW,hc,h1,hf]⟩
     |mk kk nn ss us=>
       have hc:(Tm.mk kk nn ss us).cells=[.int .i64 kk,.int .i64 nn,.str ss,.sl (us.map Tm.aL)]:=rfl;have hr:=bw us;by_cases h1:kk=2
       .subst h1
        cases h2:(ss==[46]) with
        |false=>exact⟨0,by simp[ku,iW,hc,h2,hf,hr]⟩
        |true=>
          have h3:((us.length:Int)=2)=False:=eq_false λe=>by have DW:=eq_of_beq h2;simp[hO,Tm.aj,Tm.az,Tm.aa,DW] at hd;exact of_decide_eq_false hd (by omega)
          exact⟨0,by simp[ku,iW,hc,h2,h3,hf,hr]⟩
       .exact⟨0,by simp[ku,iW,hc,h1,hf,hr]⟩
   |true=>
     obtain⟨x,r,ha,e⟩:=kf hd;have iE:=bJ t;rw[ha] at iE;simp only[Tm.br] at iE
     cases t with
     |nl kk nn ss=>cases ha
     |mk kk nn ss us=>
       simp only[Tm.aa] at ha;subst ha;simp only[hO,Bool.and_eq_true] at hd;obtain⟨⟨hd1,hd2⟩,_⟩:=hd;obtain rfl:kk=2:=of_decide_eq_true hd1;obtain rfl:ss=[46]:=of_decide_eq_true hd2;obtain⟨md,ih⟩:=K0 C n k r (aM++[x]) m (by omega) (by simp) (by simp;omega) (by omega);refine⟨md,?_⟩;rw[e];have hc:(Tm.mk 2 nn [46] [x,r]).cells=[.int .i64 2,.int .i64 nn,.str [46],.sl [x.aL,r.aL]]:=rfl;have dJ:=Tm.bm x;have fx:=Tm.aY x;have cI:=ar x;have ti:=Tm.bm r;have Gu:=Tm.aY r;have hrr:=ar r;have ju:AV.ah (ay aM++x.cells)=0:=by rw[<-me];exact aU _
       rw[fx] at ju;have h8:(aM.length+1)*56<=140737488355328:=by omega
       have h9:aM.length+1<9223372036854775808:=by omega
       have jZ:(ay aM).take (aM.length*4)=ay aM:=by rw[List.take_of_length_le];rw[cG];exact Nat.le_refl _
       have qT:=cG aM;simp only[me,List.length_append,List.length_cons,List.length_nil,Nat.zero_add,Gu,fx] at ih;simp[ku,iW,hc,dJ,fx,cI,ti,Gu,hrr,hf,ju,h8,h9,jZ,qT,aG];refine Eq.trans ih ?_;simp[ay,fx,Nat.add_comm,Nat.add_left_comm,Nat.add_assoc]
def vT(id:Nat):List Tm->AV
 |[]=>.aF
 |x::r=>.vec id 0 (r.length+1) 4 (r.length+1)
def hT(us:List Tm)(B:List aT):List aT:=match us with
 |[]=>B
 |x::r=>.row (ay (x::r))::B
theorem Yz{h:af}{n0 d id:Nat}(x:Tm)(r:List Tm)(bX:n0<=id)(hg:h.get id=some (.row (ay (x::r)))):
 jL h n0 (d+2) (.vec id 0 (r.length+1) 4 (r.length+1))=some (.sl ((x::r).map Tm.aL),[id]):=
 wR bX hg (by omega) (sG (x::r)) (by simp) (by rw[cG];simp) (by rw[vw,List.take_of_length_le];rw[cG];simp)
theorem Vx(C:Nat->List AV->af->Option (AV×af))(n:Nat)(t:Tm)(m:Nat)(hs:t.size<=999999999)(hm:t.size<m):
 ∃md,il 2 0 (bP (aC C n ku) iW 2 m (YK (.ptr 0 0) .aF (.ptr 1 0)) ⟨2,[.row zT,.row t.cells],2,0⟩)=
   some (.exit 0,FM 35 [(1,.ptr 0 0),(2,vT 2 (a8 t).1),(3,.ptr 1 0)],⟨(hT (a8 t).1 [.row zT,.row (a8 t).2.cells]).length,hT (a8 t).1 [.row zT,.row (a8 t).2.cells],0,md⟩):=by
 cases m with
 |zero=>omega
 |succ m=>
   rw[ag]
   cases hd:hO t with
   |false=>
     rw[pn hd]
     cases t with
     |nl kk nn ss=>
       have hc:(Tm.nl kk nn ss).cells=[.int .i64 kk,.int .i64 nn,.str ss,.aF]:=rfl;by_cases h1:kk=2
       .subst h1
        cases h2:(ss==[46]) with
        |false=>exact⟨0,by simp[ku,iW,hc,h2,vT,hT]⟩
        |true=>exact⟨0,by simp[ku,iW,hc,h2,vT,hT]⟩
       .exact⟨0,by simp[ku,iW,hc,h1,vT,hT]⟩
     |mk kk nn ss us=>
       have hc:(Tm.mk kk nn ss us).cells=[.int .i64 kk,.int .i64 nn,.str ss,.sl (us.map Tm.aL)]:=rfl;have hr:=bw us;by_cases h1:kk=2
       .subst h1
        cases h2:(ss==[46]) with
        |false=>exact⟨0,by simp[ku,iW,hc,h2,hr,vT,hT]⟩
        |true=>
          have h3:((us.length:Int)=2)=False:=eq_false λe=>by have DW:=eq_of_beq h2;simp[hO,Tm.aj,Tm.az,Tm.aa,DW] at hd;exact of_decide_eq_false hd (by omega)
          exact⟨0,by simp[ku,iW,hc,h2,h3,hr,vT,hT]⟩
       .exact⟨0,by simp[ku,iW,hc,h1,hr,vT,hT]⟩
   |true=>
     obtain⟨x,r,ha,e⟩:=kf hd;have iE:=bJ t;rw[ha] at iE;simp only[Tm.br] at iE
     cases t with
     |nl kk nn ss=>cases ha
     |mk kk nn ss us=>simp only[Tm.aa] at ha;subst ha;simp only[hO,Bool.and_eq_true] at hd;obtain⟨⟨hd1,hd2⟩,_⟩:=hd;obtain rfl:kk=2:=of_decide_eq_true hd1;obtain rfl:ss=[46]:=of_decide_eq_true hd2;obtain⟨md,ih⟩:=K0 C n r.size r [x] m (Nat.le_refl _) (by simp) (by simp;omega) (by omega);refine⟨md,?_⟩;rw[e];have hc:(Tm.mk 2 nn [46] [x,r]).cells=[.int .i64 2,.int .i64 nn,.str [46],.sl [x.aL,r.aL]]:=rfl;have dJ:=Tm.bm x;have fx:=Tm.aY x;have cI:=ar x;have ti:=Tm.bm r;have Gu:=Tm.aY r;have hrr:=ar r;simp only[ay,List.flatMap_cons,List.flatMap_nil,List.append_nil,List.length_append,List.length_cons,List.length_nil,Nat.zero_add,Gu,fx] at ih;simp[ku,iW,hc,dJ,fx,cI,ti,Gu,hrr,aG];refine Eq.trans ih ?_;simp[vT,hT,ay,fx,Nat.add_comm,Nat.add_left_comm,Nat.add_assoc]
def yJ(t:Tm):List Tm×Tm:=if dp t then a8 t else ([],t)
def Bz:aW:=⟨34,λ|[v]=>(match fK v with|some t=>if t.eO<1000000000 then some (.tuple [Gx (yJ t).1,(yJ t).2.aL]) else none|none=>none)|_=>none⟩
theorem Ax:Bz.f=34:=(rfl)
theorem Ts(t:Tm)(h:t.eO<1000000000):Bz.S [t.aL]=some (.tuple [Gx (yJ t).1,(yJ t).2.aL]):=by simp only[Bz,cd,if_pos h]
theorem NC(us:List Tm):(Gx us).aJ=0:=by cases us<;>simp[Gx,AV.aJ]
theorem Uk:aX Tryz.prog Bz:=λaa v hv=>by
 unfold Bz at hv|-;dsimp only at hv|-;split at hv
 .rename_i x;split at hv
  .rename_i t ht;split at hv
   .rename_i hl;cases hv;rw[cf ht];refine bL (n:=t.size+5) (h':=h0) (bK (ss:=[fu]) (by simp[wy])) ?_ (by simp[AV.aJ,AV.ah,NC,Tm.bC]) (by simp[AV.ah,Tm.bC]);have hsb:=mC t;have c1:=s9 t (by omega);have dJ:=Tm.bm t;have dq:=Tm.aY t;have cI:=ar t;obtain⟨md,eq⟩:=Vx (aH (cD [fu]) (t.size+4)) (t.size+4) t (t.size+4) (by omega) (by omega);unfold yJ
    cases hg:dp t with
    |false=>rw[hg] at c1;rw[dJ,dq] at c1|-;simp[V8,c34,c1,cI,aw,bF,Gx];rw[dJ,dq]
    |true=>
      rw[hg] at c1;generalize a8 t=p at eq;obtain⟨us,tl⟩:=p;dsimp only at eq|-;simp only[if_true];rw[dJ,dq] at c1|-;rw[dq] at eq;simp only[iW,zT] at eq;have htl:=Tm.bm tl;have htc:=Tm.aY tl;have KK:=ar tl;rw[htl,htc];rw[htc] at eq
      cases us with
      |nil=>simp only[vT,hT,zT,List.length_cons,List.length_nil] at eq;simp[V8,c34,iW,c1,cI,KK,aw,bF,Gx,eq]
      |cons y r=>
        simp only[vT,hT,zT,List.length_cons,List.length_nil] at eq;have ju:=aU (y::r);have hf:∀(A B:aT) (wl md d:Nat),jL ⟨3,[.row (ay (y::r)),A,B],wl,md⟩ 0 (d+2) (.vec 2 0 (r.length+1) 4 (r.length+1))=some (.sl ((y::r).map Tm.aL),[2]):=λA B wl md d=>Yz y r (by omega) rfl
        simp only[List.map_cons] at hf;simp[V8,c34,iW,c1,cI,KK,ju,aw,bF,Gx,eq,hf]
   .cases hv
  .cases hv
 .cases hv
def wE:aW:=⟨79,λ|[.str s]=>if s.length<281474976710656 then some (.tuple [.int .i64 (gv s).1,.int .i64 (gv s).2]) else none|_=>none⟩
theorem gJ:wE.f=79:=(rfl)
theorem Pt(s:List UInt8)(h:s.length<281474976710656):wE.S [.str s]=some (.tuple [.int .i64 (gv s).1,.int .i64 (gv s).2]):=if_pos h
theorem LH(s:List UInt8)(hd:Lib.trimPrefix s [45]≠[])(ha:cZ (Lib.trimPrefix s [45])=true):(∃v,Lib.parseIntB 64 s=.ok v)\/Lib.parseIntB 64 s=.range:=by
 have pu:∀(M:Nat) (l:List UInt8) (aM:Nat),cZ l=true->(∃u,Lib.parseUintM M aM l=.ok u)\/Lib.parseUintM M aM l=.range:=by
  intro M l
  induction l with
  |nil=>intro aM _;exact .inl ⟨aM,rfl⟩
  |cons c r ih=>
    intro aM h;simp only[cZ,dN,Bool.and_eq_true,decide_eq_true_eq] at h;unfold Lib.parseUintM;rw[if_pos h.1];split
    .exact .inr rfl
    .split
     .exact .inr rfl
     .exact ih _ h.2
 cases s with
 |nil=>exact absurd XN hd
 |cons c r=>
   by_cases hc:c=45
   .subst hc;rw[FZ] at hd ha;unfold Lib.parseIntB Lib.parseUintB;simp only[show (45:UInt8).toNat=45 from rfl,or_true,if_true,hd,if_false];rcases pu (2^64-1) r 0 ha with⟨u,e⟩|e
    .rw[e];simp only[not_true,false_and,if_false,true_and];split
     .exact .inr rfl
     .exact .inl ⟨_,rfl⟩
    .rw[e];exact .inr rfl
   .rw[tJ c r hc] at ha;have h:=ahR hc
    have hg:48<=c.toNat/\c.toNat<=57:=by simp only[cZ,dN,Bool.and_eq_true,decide_eq_true_eq] at ha;exact ha.1
    unfold Lib.parseIntB Lib.parseUintB;simp only[show (c.toNat=43)=False from eq_false (by omega),show (c.toNat=45)=False from eq_false h,or_false,if_false,reduceCtorEq];rcases pu (2^64-1) (c::r) 0 ha with⟨u,e⟩|e
    .rw[e];simp only[not_false_iff,true_and,false_and,if_false];split
     .exact .inr rfl
     .exact .inl ⟨_,rfl⟩
    .rw[e];exact .inr rfl
theorem P4:dU Tryz.prog bV wE:=λaa v hv=>by
 unfold wE at hv|-;dsimp only at hv|-;split at hv
 .rename_i s;split at hv
  .rename_i hl;cases hv;refine bL (n:=5) (h':=h0) (jF (ss:=[ow,trimS,Fw]) (by simp[Ek.lift,Zp.lift,Vw])) ?_ (by simp[AV.aJ,AV.ah]) (by simp[AV.aJ,AV.ah]);have c1:=EB s [45];have hdl:(Lib.trimPrefix s [45]).length<=s.length:=by unfold Lib.trimPrefix;split<;>simp
   have c2:=WQ (Lib.trimPrefix s [45]) (by omega);unfold digits at c2;have c3:=TI s hl;unfold gv;dsimp only;have hb:∀l:List UInt8,(l==[])=decide (l=[]):=λl=>by cases l<;>rfl
   by_cases hd:Lib.trimPrefix s [45]=[]
   .rw[if_pos hd];rw[hd] at c1;simp[Rb,c79,c1,oc,DN,yX]
   .rw[if_neg hd];have e1:(Lib.trimPrefix s [45]==[])=false:=by rw[hb];simpa using hd
    cases ha:cZ (Lib.trimPrefix s [45]) with
    |false=>
      have e2:(Ik (Lib.trimPrefix s [45])==[])=false:=by rw[hb];simp only[decide_eq_false_iff_not];intro h;rw[Is,ha] at h;cases h
      simp[Rb,c79,c1,c2,e1,e2,oc,DN,yX]
    |true=>
      have e2:Ik (Lib.trimPrefix s [45])=[]:=(Is _).2 ha;rw[e2] at c2;unfold Jk at c3;rcases LH s hd ha with⟨u,e⟩|e
      .rw[e] at c3|-;dsimp only at c3;simp[Rb,c79,c1,c2,c3,e1,oc,DN,yX]
      .rw[e] at c3|-;dsimp only at c3;simp[Rb,c79,c1,c2,c3,e1,oc,DN,yX]
  .cases hv
 .cases hv
def Ca:aW:=⟨135,λ|[.int .i64 n]=>if -9223372036854775808<=n/\n<9223372036854775808 then some (.str (cn n)) else none|_=>none⟩
theorem iI:Ca.f=135:=(rfl)
theorem L9(n:Int)(h:-9223372036854775808<=n/\n<9223372036854775808):Ca.S [.int .i64 n]=some (.str (cn n)):=if_pos h
theorem YH:dU Tryz.prog bV Ca:=λaa v hv=>by
 unfold Ca at hv|-;dsimp only at hv|-;split at hv
 .rename_i n;split at hv
  .rename_i hl;cases hv;refine bL (n:=5) (h':=h0) (jF (ss:=[Ab]) (by simp[PU])) ?_ (by simp[AV.aJ]) (by simp[AV.ah,AV.aJ]);have c1:=OB n hl;simp[afo,abm,c1,TR]
  .cases hv
 .cases hv
theorem A1(t:Tm)(fr:List AV)(h:af)(o:dY)(ho:o.ev fr=t.bh):bG fr h (.vj o)=some (.int .i64 t.aa.length,h):=by
 rw[dZ,ho]
 cases t with
 |nl k n s=>rfl
 |mk k n s us=>simp[Tm.bh,Tm.aa]
def vM:aW:=⟨114,λ|[.str s,.sl xs]=>(lU xs).map λus=>(Tm.mk 2 0 s us).aL|_=>none⟩
theorem vN:vM.f=114:=(rfl)
theorem TV(s:List UInt8)(us:List Tm):vM.S [.str s,.sl (us.map Tm.aL)]=some (Tm.mk 2 0 s us).aL:=by unfold vM;dsimp only;rw[<-jb,l7];rfl
theorem Vc:aX Tryz.prog vM:=λaa v hv=>by
 unfold vM at hv|-;dsimp only at hv|-;split at hv
 .rename_i s xs;obtain⟨us,hx,rfl⟩:=Option.map_eq_some_iff.1 hv;rw[td hx];refine bL (n:=3) (h':=h0) (bK (ss:=[]) (by simp)) ?_ (Tm.bC _) (by simp[AV.ah,AV.aJ,bw]);have hr:=bw us;simp[af1,abh,Tm.aL,jb,hr]
 .cases hv
def jV(N:Nat):aW:=⟨37,λ|[a,b]=>(match fK a,fK b with|some x,some y=>if x.size<N/\y.size<1000000000 then some (.bool (rT x y)) else none|_,_=>none)|_=>none⟩
theorem iS(N:Nat):(jV N).f=37:=(rfl)
theorem yE(N:Nat)(x y:Tm)(h:x.size<N/\y.size<1000000000):(jV N).S [x.aL,y.aL]=some (.bool (rT x y)):=by simp only[jV,cd,if_pos h]
theorem OE(N:Nat)(x y:Tm)(h:N<=x.size):(jV N).S [x.aL,y.aL]=none:=by simp only[jV,cd];rw[if_neg (by omega)]
theorem LC(n N:Nat)(us ws:List Tm)(hl:us.length=ws.length)(hN:N<=1000000000)(h1:Tm.br us<N)(h2:Tm.br ws<1000000000)(K M K' M':Int)(s s':List UInt8):∀(post IY pre QT:List Tm) (k:Nat),us=pre++post->ws=QT++IY->pre.length=QT.length->post.length<k->
 ∃md,il 2 0 (bP (aC (aH (cD [jV N]) (n+1)) (n+1) BO) x8 2 k (af0 (.ptr 0 0) (.ptr 1 0) (.int .i64 pre.length)) ⟨2,[.row [.int .i64 K',.int .i64 M',.str s',.sl (ws.map Tm.aL)],.row [.int .i64 K,.int .i64 M,.str s,.sl (us.map Tm.aL)]],2,0⟩)=
   some (if oA post IY then .exit 0 else .ret,if oA post IY then FM 53 [] else FM 53 [(4,.bool false)],⟨2,[.row [.int .i64 K',.int .i64 M',.str s',.sl (ws.map Tm.aL)],.row [.int .i64 K,.int .i64 M,.str s,.sl (us.map Tm.aL)]],0,md⟩)
 |[],[],pre,QT,k+1,e,e2,hp,_=>by simp at e;subst e;have h5:AV.ah (us.map Tm.aL)=0:=bw _;have h6:AV.ah (ws.map Tm.aL)=0:=bw _;exact⟨0,by simp[ag,BO,h5,h6,xb]⟩
 |[],y::IY,pre,QT,k,e,e2,hp,_=>by rw[e,e2] at hl;simp at hl;omega
 |x::post,[],pre,QT,k+1,e,e2,hp,_=>by rw[e,e2] at hl;simp at hl;omega
 |x::post,y::IY,pre,QT,k+1,e,e2,hp,hk=>by
   obtain⟨md,ih⟩:=LC n N us ws hl hN h1 h2 K M K' M' s s' post IY (pre++[x]) (QT++[y]) k (by simp[e]) (by simp[e2]) (by simp[hp]) (by rw[List.length_cons] at hk;omega);have hlu:=dE us;have g1:us[pre.length]? =some x:=by rw[e];simp
   have g2:ws[pre.length]? =some y:=by rw[e2,hp];simp
   have h5:AV.ah (us.map Tm.aL)=0:=bw _;have h5w:AV.ah (ws.map Tm.aL)=0:=bw _;have DP:pre.length<us.length:=by rw[e];simp
   have h6:((pre.length:Int)<(us.length:Int))=True:=eq_true (by omega);have h3:IntKind.i64.wrap ((pre.length:Int)+1)=(pre.length:Int)+1:=wrap_i64 (by omega) (by omega);have dJ:=Tm.bm x;have fx:=Tm.aY x;have cI:=ar x;have DV:=Tm.bm y;have rH:=Tm.aY y;have qj:=ar y;have hs:=yE N x y ⟨by have:=mq (us:=us) (y:=x) (by rw[e];simp);omega,by have:=mq (us:=ws) (y:=y) (by rw[e2];simp);omega⟩;rw[dJ,fx,DV,rH] at hs;simp only[List.length_append,List.length_cons,List.length_nil,Nat.zero_add] at ih;rw[show ((pre.length+1:Nat):Int)=(pre.length:Int)+1 by omega] at ih;rw[ag,Ge]
   cases ZQ:rT x y with
   |false=>rw[ZQ] at hs;exact⟨0,by simp[BO,g1,g2,h5,h5w,h6,dJ,fx,cI,DV,rH,qj,hs,aw,iS]⟩
   |true=>rw[ZQ] at hs;refine⟨md,?_⟩;simp[BO,x8,g1,g2,h3,h5,h5w,h6,dJ,fx,cI,DV,rH,qj,hs,aw,iS];exact ih
theorem JC(N:Nat)(hN:N<=1000000000)(hp:aX Tryz.prog (jV N)):aX Tryz.prog (jV (N+1)):=λaa v hv=>by
 unfold jV at hv;dsimp only at hv;split at hv
 .rename_i a b;split at hv
  .rename_i x y ha hb;split at hv
   .rename_i hc;rcases Nat.lt_or_ge x.size N with cY|hge
    .refine hp _ _ ?_;rw[cf ha,cf hb,yE N x y ⟨cY,hc.2⟩];exact hv
    cases hv;rw[iS,cf ha,cf hb];have fW:=OE N x y hge;have s1:=bJ x;have s2:=bJ y;refine bL (n:=x.size+5) (h':=h0) (bK (ss:=[jV N]) (by simp[hp])) ?_ rfl (by simp[AV.ah,Tm.bC]);have dJ:=Tm.bm x;have fx:=Tm.aY x;have cI:=ar x;have DV:=Tm.bm y;have rH:=Tm.aY y;have qj:=ar y;have bA:=A1 x;have bD:=A1 y;rw[Wi];rw[dJ,fx,DV,rH] at fW|-;by_cases c1:x.aj=y.aj
    .rw[c1] at fW|-;by_cases c2:x.bj=y.bj
     .rw[c2] at fW|-
      cases c3:x.az==y.az with
      |true=>
        by_cases c4:x.aa.length=y.aa.length
        .have hls:=dE x.aa;by_cases eR:x.aa=[]
         .have hw:y.aa=[]:=List.eq_nil_of_length_eq_zero (by rw[eR] at c4;simpa using c4.symm);rw[eR,hw]
          have a1:x.bh=.aF\/x.bh=.sl []:=by
           cases x with
           |nl k n s=>exact .inl rfl
           |mk k n s us=>simp only[Tm.aa] at eR;subst eR;exact .inr rfl
          have a2:y.bh=.aF\/y.bh=.sl []:=by
           cases y with
           |nl k n s=>exact .inl rfl
           |mk k n s us=>simp only[Tm.aa] at hw;subst hw;exact .inr rfl
          rcases a1 with a1|a1<;>rcases a2 with a2|a2<;>rw[a1,a2] at fW|-<;>simp[F8,c37,x8,BO,ag,c1,c2,c3,fW,iS,xb,aw]
         .have a1:x.bh=.sl (x.aa.map Tm.aL):=by
           cases x with
           |nl k n s=>exact absurd rfl eR
           |mk k n s us=>rfl
          have a2:y.bh=.sl (y.aa.map Tm.aL):=by
           cases y with
           |nl k n s=>exact absurd (List.eq_nil_of_length_eq_zero (by simpa[Tm.aa] using c4)) eR
           |mk k n s us=>rfl
          have h5:=bw x.aa;have h6:=bw y.aa;have DU:((x.aa.length:Int)=(y.aa.length:Int))=True:=eq_true (by omega);obtain⟨md,lp⟩:=LC (x.size+3) N x.aa y.aa c4 hN (by omega) (by omega) y.aj y.bj y.aj y.bj x.az y.az x.aa y.aa [] [] (x.size+4) rfl rfl rfl (by omega);simp only[List.length_nil,x8,show ((0:Nat):Int)=0 from rfl] at lp;rw[a1,a2] at fW|-
          cases ZQ:oA x.aa y.aa with
          |true=>rw[ZQ] at lp;simp only[if_true] at lp;simp[F8,c37,x8,c1,c2,c3,DU,h5,h6,fW,lp,iS]
          |false=>rw[ZQ] at lp;simp only[Bool.false_eq_true,if_false] at lp;simp[F8,c37,x8,c1,c2,c3,DU,h5,h6,fW,lp,iS]
        .have DU:((x.aa.length:Int)=(y.aa.length:Int))=False:=eq_false (by omega);simp[F8,c37,c1,c2,c3,DU,cI,qj,bA,bD,fW,iS,aw,IL _ _ c4]
      |false=>simp[F8,c37,c1,c2,c3,cI,qj,fW,iS,aw]
     .simp[F8,c37,c1,c2,cI,qj,fW,iS,aw]
    .simp[F8,c37,c1,cI,qj,fW,iS,aw]
   .cases hv
  .cases hv
 .cases hv
theorem Kw:aX Tryz.prog (jV 0):=λaa v hv=>by
 unfold jV at hv;dsimp only at hv;split at hv
 .split at hv
  .split at hv
   .rename_i hc;omega
   .cases hv
  .cases hv
 .cases hv
theorem Cl:∀N,N<=1000000001->aX Tryz.prog (jV N)
 |0,_=>Kw
 |N+1,h=>JC N (by omega) (Cl N (by omega))
mutual
def jz:Tm->Int->Int
 |.nl ..,_=>1
 |.mk _ _ _ us,m=>jg us m 1
def jg:List Tm->Int->Int->Int
 |[],_,n=>n
 |x::r,m,n=>if n<=m then jg r m (n+jz x (m-n)) else n
end
theorem PI(t:Tm)(m:Int):jz t m=jg t.aa m 1:=by cases t<;>simp[jz,jg,Tm.aa]
mutual
theorem BV:∀(t:Tm) (m:Int),1<=jz t m/\jz t m<=t.size
 |.nl ..,m=>by simp[jz,Tm.size]
 |.mk _ _ _ us,m=>by have:=yI us m 1;simp only[jz,Tm.size];omega
theorem yI:∀(us:List Tm) (m n:Int),n<=jg us m n/\jg us m n<=n+Tm.br us
 |[],m,n=>by simp[jg,Tm.br]
 |x::r,m,n=>by have h1:=BV x (m-n);have h2:=yI r m (n+jz x (m-n));simp only[jg,Tm.br];split<;>omega
end
mutual
theorem HL:∀(t:Tm) (m:Int),0<=m->(((t.size:Int)<=m->jz t m=t.size)/\(m<t.size->m<jz t m))
 |.nl ..,m,h=>by simp[jz,Tm.size]
 |.mk _ _ _ us,m,h=>by
   have:=Fq us m 1 h (by omega);simp only[jz,Tm.size];constructor
   .intro h1;have:=this.1 (by omega);omega
   .intro h1;exact this.2 (by omega)
theorem Fq:∀(us:List Tm) (m n:Int),0<=m->1<=n->((n+Tm.br us<=m->jg us m n=n+Tm.br us)/\(m<n+Tm.br us->m<jg us m n))
 |[],m,n,_,_=>by simp[jg,Tm.br]
 |x::r,m,n,h,hn=>by
   simp only[jg,Tm.br];have b1:=BV x (m-n);split
   .have h1:=HL x (m-n) (by omega);have h2:=Fq r m (n+jz x (m-n)) h (by omega);have h3:=yI r m (n+jz x (m-n));constructor
    .intro g;have e:=h1.1 (by omega);have:=h2.1 (by omega);omega
    .intro g;by_cases c:(x.size:Int)<=m-n
     .have e:=h1.1 c;exact h2.2 (by omega)
     .have e:=h1.2 (by omega);omega
   .constructor<;>intro g<;>omega
end
def jW(N:Nat):aW:=⟨90,λ|[v,.int .i64 m]=>(match fK v with|some t=>if t.size<N/\0<=m/\m<=2000 then some (.int .i64 (jz t m)) else none|none=>none)|_=>none⟩
theorem nI(N:Nat):(jW N).f=90:=(rfl)
theorem yA(N:Nat)(x:Tm)(m:Int)(h:x.size<N/\0<=m/\m<=2000):(jW N).S [x.aL,.int .i64 m]=some (.int .i64 (jz x m)):=by simp only[jW,cd,if_pos h]
theorem Pz(N:Nat)(x:Tm)(m:Int)(h:N<=x.size):(jW N).S [x.aL,.int .i64 m]=none:=by simp only[jW,cd];rw[if_neg (by omega)]
theorem Mw(n N:Nat)(us:List Tm)(hN:N<=1000000000)(h1:Tm.br us<N)(m:Int)(hm:0<=m/\m<=2000)(K M:Int)(s:List UInt8):∀(post pre:List Tm) (k:Nat) (q:Int),us=pre++post->post.length<k->1<=q->q+Tm.br post<=1000000000->
 ∃md,il 1 0 (bP (aC (aH (cD [jW N]) (n+1)) (n+1) B0) Bh 1 k (afk (.int .i64 m) (.ptr 0 0) (.int .i64 q) (.int .i64 pre.length)) ⟨1,[.row [.int .i64 K,.int .i64 M,.str s,.sl (us.map Tm.aL)]],1,0⟩)=
   some (.exit 0,FM 31 [(5,.int .i64 (jg post m q))],⟨1,[.row [.int .i64 K,.int .i64 M,.str s,.sl (us.map Tm.aL)]],0,md⟩)
 |[],pre,k+1,q,e,_,_,_=>by simp at e;subst e;have h5:AV.ah (us.map Tm.aL)=0:=bw _;exact⟨0,by simp[ag,B0,h5,jg]⟩
 |x::post,pre,k+1,q,e,hk,hq,hql=>by
   have hlu:=dE us;have g1:us[pre.length]? =some x:=by rw[e];simp
   have h5:AV.ah (us.map Tm.aL)=0:=bw _;have DP:pre.length<us.length:=by rw[e];simp
   have h6:((pre.length:Int)<(us.length:Int))=True:=eq_true (by omega);have h3:IntKind.i64.wrap ((pre.length:Int)+1)=(pre.length:Int)+1:=wrap_i64 (by omega) (by omega);have dJ:=Tm.bm x;have fx:=Tm.aY x;have cI:=ar x;by_cases c:q<=m
   .have QL:x.size<N:=by have:=mq (us:=us) (y:=x) (by rw[e];simp);omega
    have hs:=yA N x (m-q) ⟨QL,by omega,by omega⟩;have hb:=BV x (m-q);simp only[Tm.br] at hql;have w1:IntKind.i64.wrap (m-q)=m-q:=wrap_i64 (by omega) (by omega);have w2:IntKind.i64.wrap (q+jz x (m-q))=q+jz x (m-q):=wrap_i64 (by omega) (by omega);obtain⟨md,ih⟩:=Mw n N us hN h1 m hm K M s post (pre++[x]) k (q+jz x (m-q)) (by simp[e]) (by rw[List.length_cons] at hk;omega) (by omega) (by omega);simp only[List.length_append,List.length_cons,List.length_nil,Nat.zero_add] at ih;rw[show ((pre.length+1:Nat):Int)=(pre.length:Int)+1 by omega] at ih
    have hsd:jg (x::post) m q=jg post m (q+jz x (m-q)):=by rw[jg,if_pos c]
    rw[hsd,ag];rw[dJ,fx] at hs;generalize jz x (m-q)=z at *;refine⟨md,?_⟩;simp[B0,Bh,g1,h3,h5,h6,c,dJ,fx,cI,hs,w1,w2,aw,nI];exact ih
   .have hsd:jg (x::post) m q=q:=by
     rw[jg,if_neg c]
    rw[hsd,ag];exact⟨0,by simp[B0,h5,h6,c]⟩
theorem JB(N:Nat)(hN:N<=1000000000)(hp:aX Tryz.prog (jW N)):aX Tryz.prog (jW (N+1)):=λaa v hv=>by
 unfold jW at hv;dsimp only at hv;split at hv
 .rename_i a m;split at hv
  .rename_i x ha;split at hv
   .rename_i hc;rcases Nat.lt_or_ge x.size N with cY|hge
    .refine hp _ _ ?_;rw[cf ha,yA N x m ⟨cY,hc.2⟩];exact hv
    cases hv;rw[nI,cf ha];have fW:=Pz N x m hge;have s1:=bJ x;have ZO:=dE x.aa;refine bL (n:=x.size+5) (h':=h0) (bK (ss:=[jW N]) (by simp[hp])) ?_ rfl (by simp[AV.ah,AV.aJ,Tm.bC]);have dJ:=Tm.bm x;have fx:=Tm.aY x;rw[PI];rw[dJ,fx] at fW|-;obtain⟨md,lp⟩:=Mw (x.size+3) N x.aa hN (by omega) m hc.2 x.aj x.bj x.az x.aa [] (x.size+4) 1 rfl (by omega) (by omega) (by omega);simp only[List.length_nil,Bh,show ((0:Nat):Int)=0 from rfl] at lp;have h5:=bw x.aa
    cases x with
    |nl kk nn ss=>simp only[Tm.bh,Tm.aj,Tm.bj,Tm.az,Tm.aa] at fW|-;simp[adk,c90,Bh,B0,ag,fW,nI,jg]
    |mk kk nn ss us=>simp only[Tm.bh,Tm.aj,Tm.bj,Tm.az,Tm.aa] at fW lp h5|-;simp[adk,c90,Bh,fW,h5,lp,nI]
   .cases hv
  .cases hv
 .cases hv
theorem Jb:aX Tryz.prog (jW 0):=λaa v hv=>by
 unfold jW at hv;dsimp only at hv;split at hv
 .split at hv
  .split at hv
   .rename_i hc;omega
   .cases hv
  .cases hv
 .cases hv
theorem CC:∀N,N<=1000000001->aX Tryz.prog (jW N)
 |0,_=>Jb
 |N+1,h=>JB N (by omega) (CC N (by omega))
def oJ(m d:Nat):List Tm->Nat
 |[]=>d
 |x::r=>oJ m (max d (min x.eZ m)) r
theorem G8(m:Nat):∀(us:List Tm) (d:Nat),d<=m->oJ m d us=min (max d (Tm.iX us)) m
 |[],d,h=>by simp[oJ,Tm.iX];omega
 |x::r,d,h=>by simp only[oJ,Tm.iX];rw[G8 m r _ (by omega)];omega
def ij(m:Nat):aW:=⟨91,λ|[v,.int .i64 n]=>(match fK v with|some t=>if n=m/\t.size<1000000000 then some (.int .i64 (min t.eZ (m+1):Nat)) else none|none=>none)|_=>none⟩
theorem jm(m:Nat):(ij m).f=91:=(rfl)
theorem CA(m:Nat)(t:Tm)(h:t.size<1000000000):(ij m).S [t.aL,.int .i64 (m:Nat)]=some (.int .i64 (min t.eZ (m+1):Nat)):=by simp only[ij,cd];exact if_pos ⟨trivial,h⟩
theorem KZ(m k:Nat)(v:AV)(h:k≠m):(ij m).S [v,.int .i64 (k:Nat)]=none:=by
 simp only[ij];split
 .rw[if_neg (by omega)]
 .rfl
theorem Ni(n m:Nat)(hm:m<=100)(K M:Int)(s:List UInt8)(us:List Tm)(hs:Tm.br us<1000000000):∀(post pre:List Tm) (k d:Nat),us=pre++post->post.length<k->d<=m+1->
 ∃md,il 1 0 (bP (aC (aH (cD [ij m]) (n+1)) (n+1) BC) yy 1 k (aeo (.int .i64 ((m:Int)+1)) (.ptr 0 0) (.int .i64 d) (.int .i64 pre.length)) ⟨1,[.row [.int .i64 K,.int .i64 M,.str s,.sl (us.map Tm.aL)]],1,0⟩)=
   some (.exit 0,FM 31 [(5,.int .i64 (oJ (m+1) d post:Nat))],⟨1,[.row [.int .i64 K,.int .i64 M,.str s,.sl (us.map Tm.aL)]],0,md⟩)
 |[],pre,k+1,d,e,_,_=>by simp at e;subst e;have h5:AV.ah (us.map Tm.aL)=0:=bw _;exact⟨0,by simp[ag,BC,h5,oJ]⟩
 |x::post,pre,k+1,d,e,hk,hd=>by
   have hlu:=dE us;have h1:us[pre.length]? =some x:=by rw[e];simp
   have h5:AV.ah (us.map Tm.aL)=0:=bw _;have DP:pre.length<us.length:=by rw[e];simp
   have h6:((pre.length:Int)<(us.length:Int))=True:=eq_true (by omega);have h3:IntKind.i64.wrap ((pre.length:Int)+1)=(pre.length:Int)+1:=wrap_i64 (by omega) (by omega);have dJ:=Tm.bm x;have dq:=Tm.aY x;have cI:=ar x
   have QL:x.size<1000000000:=by have:=mq (us:=us) (y:=x) (by rw[e];simp);omega
   have w1:IntKind.i64.wrap ((m:Int)+1-1)=(m:Int):=by rw[wrap_i64 (by omega) (by omega)];omega
   have w1':IntKind.i64.wrap (m:Int)=(m:Int):=by rw[wrap_i64 (by omega) (by omega)]
   have hc:=CA m x QL;rw[dJ,dq] at hc;obtain⟨md,ih⟩:=Ni n m hm K M s us hs post (pre++[x]) k (max d (min x.eZ (m+1))) (by simp[e]) (by rw[List.length_cons] at hk;omega) (by omega);refine⟨md,?_⟩;simp only[List.length_append,List.length_cons,List.length_nil,Nat.zero_add] at ih;rw[show ((pre.length+1:Nat):Int)=(pre.length:Int)+1 by omega] at ih;rw[ag];rw[oJ];generalize min x.eZ (m+1)=q at hc ih|-;by_cases hq:d<q
   .have hq':((d:Int)<(q:Int))=True:=eq_true (by omega);rw[show max d q=q by omega] at ih|-;simp[BC,yy,h1,h3,h5,h6,dJ,dq,cI,w1,w1',hc,hq',aw,jm];exact ih
   .have hq':((d:Int)<(q:Int))=False:=eq_false (by omega);rw[show max d q=d by omega] at ih|-;simp[BC,yy,h1,h3,h5,h6,dJ,dq,cI,w1,w1',hc,hq',aw,jm];exact ih
theorem GS(m:Nat)(hm:m<100)(hp:aX Tryz.prog (ij m)):aX Tryz.prog (ij (m+1)):=λaa v hv=>by
 unfold ij at hv;dsimp only at hv;split at hv
 .rename_i x n;split at hv
  .rename_i t ht;split at hv
   .rename_i hc;obtain⟨rfl,hs⟩:=hc;cases hv;rw[cf ht];have fW:=KZ m (m+1) t.aL (by omega);refine bL (n:=t.size+5) (h':=h0) (bK (ss:=[ij m]) (by simp[hp])) ?_ rfl (by simp[AV.ah,AV.aJ,Tm.bC]);rw[jm];have dJ:=Tm.bm t;have dq:=Tm.aY t;have iE:=bJ t;have ZO:=dE t.aa;have hde:=pS t;have hfe:=G8 (m+1) t.aa 0 (by omega);obtain⟨md,lp⟩:=Ni (t.size+3) m (by omega) t.aj t.bj t.az t.aa (by omega) t.aa [] (t.size+4) 0 rfl (by omega) (by omega);simp only[List.length_nil,show ((0:Nat):Int)=0 from rfl,yy] at lp;have hz:((min t.eZ (m+1+1):Nat):Int)=(oJ (m+1) 0 t.aa:Int)+1:=by omega
    rw[hz];have w2:IntKind.i64.wrap ((oJ (m+1) 0 t.aa:Int)+1)=(oJ (m+1) 0 t.aa:Int)+1:=wrap_i64 (by omega) (by omega);rw[dJ,dq] at fW|-;have lP:((m:Int)+1<=0)=False:=eq_false (by omega);simp only[Int.natCast_add,Int.natCast_one] at fW;have h5:=bw t.aa
    cases t with
    |nl kk nn ss=>simp only[Tm.bh,Tm.aj,Tm.bj,Tm.az,Tm.aa] at fW w2|-;simp[oJ] at w2;simp[W8,c91,yy,BC,ag,fW,lP,jm,oJ,w2]
    |mk kk nn ss us=>simp only[Tm.bh,Tm.aj,Tm.bj,Tm.az,Tm.aa] at fW lp h5 w2|-;simp[W8,c91,yy,fW,lP,h5,lp,jm,w2]
   .cases hv
  .cases hv
 .cases hv
theorem TS(t:Tm):1<=t.eZ:=by have:=pS t;omega
theorem GG:aX Tryz.prog (ij 0):=λaa v hv=>by
 unfold ij at hv;dsimp only at hv;split at hv
 .rename_i x n;split at hv
  .rename_i t ht;split at hv
   .rename_i hc;obtain⟨rfl,hs⟩:=hc;cases hv;rw[cf ht];refine bL (n:=5) (h':=h0) (bK (ss:=[]) (by simp)) ?_ rfl (by simp[AV.ah,AV.aJ,Tm.bC]);rw[jm];have dJ:=Tm.bm t;have dq:=Tm.aY t;have cI:=ar t;have hd:=TS t;rw[show min t.eZ (0+1)=1 by omega];rw[dJ,dq];simp[W8,c91,cI]
   .cases hv
  .cases hv
 .cases hv
theorem zp:∀m,m<=100->aX Tryz.prog (ij m)
 |0,_=>GG
 |m+1,h=>GS m (by omega) (zp m (by omega))
def iG(N:Nat):aW:=⟨92,λ|[v]=>(match fK v with|some t=>if t.size<N/\t.eO<1000000000 then some (.bool (t.gu eT)) else none|none=>none)|_=>none⟩
theorem dO(N:Nat):(iG N).f=92:=(rfl)
theorem yC(N:Nat)(x:Tm)(h:x.size<N/\x.eO<1000000000):(iG N).S [x.aL]=some (.bool (x.gu eT)):=by simp only[iG,cd,if_pos h]
theorem QB(N:Nat)(x:Tm)(h:N<=x.size):(iG N).S [x.aL]=none:=by simp only[iG,cd];rw[if_neg (by omega)]
theorem Hf(C:Nat->List AV->af->Option (AV×af))(n:Nat)(s:List UInt8)(hs:s.length<4611686018427387904)(K M:Int)(A:AV)(hA:A.aJ=0):∀post pre m,s=pre++post->post.length<m->
 il 1 0 (bP (aC C n vA) oN 1 m (ae5 (.ptr 0 0) (.int .i64 pre.length)) ⟨1,[.row [.int .i64 K,.int .i64 M,.str s,A]],1,0⟩)=
  some (if jx post then .exit 1 else .ret,if jx post then FM 96 [(1,.ptr 0 0)] else FM 96 [(2,.bool false)],⟨1,[.row [.int .i64 K,.int .i64 M,.str s,A]],0,0⟩)
 |[],pre,m+1,e,_=>by simp at e;subst e;simp[ag,vA,jx,hA]
 |c::post,pre,m+1,e,hm=>by
   have ih:=Hf C n s hs K M A hA post (pre++[c]) m (by simp[e]) (by rw[List.length_cons] at hm;omega);have h1:s[pre.length]? =some c:=by rw[e];simp
   have h3:IntKind.i64.wrap ((pre.length:Int)+1)=(pre.length:Int)+1:=by rw[w7 (by rw[e] at hs;simp at hs;omega)];simp
   have h6:((pre.length:Int)<(s.length:Int))=True:=eq_true (by rw[e,List.length_append,List.length_cons];omega);simp only[List.length_append,List.length_cons,List.length_nil,Nat.zero_add,Int.natCast_add,Int.natCast_one] at ih;have ho:Ou c=!((decide (c.toNat<32)||decide (126<c.toNat))&&decide (c.toNat≠9)&&decide (c.toNat≠10)):=rfl;rw[ag];by_cases a3:c.toNat=9
   .have b3:((c.toNat:Int)=9)=True:=eq_true (by omega);have ho:Ou c=true:=by rw[ho];simp[a3]
    simp[vA,oN,h1,h3,h6,b3,jx,ho,hA];exact ih
   .have b3:((c.toNat:Int)=9)=False:=eq_false (by omega);by_cases a4:c.toNat=10
    .have b4:((c.toNat:Int)=10)=True:=eq_true (by omega);have ho:Ou c=true:=by rw[ho];simp[a4]
     simp[vA,oN,h1,h3,h6,b3,b4,jx,ho,hA];exact ih
    .have b4:((c.toNat:Int)=10)=False:=eq_false (by omega);by_cases a1:c.toNat<32
     .have b1:((c.toNat:Int)<32)=True:=eq_true (by omega);have ho:Ou c=false:=by rw[ho];simp[a1,a3,a4]
      simp[vA,oN,h1,h3,h6,b1,b3,b4,jx,ho,hA]
     .have b1:((c.toNat:Int)<32)=False:=eq_false (by omega);by_cases a2:126<c.toNat
      .have b2:(126<(c.toNat:Int))=True:=eq_true (by omega);have ho:Ou c=false:=by rw[ho];simp[a1,a2,a3,a4]
       simp[vA,oN,h1,h3,h6,b1,b2,b3,b4,jx,ho,hA]
      .have b2:(126<(c.toNat:Int))=False:=eq_false (by omega);have ho:Ou c=true:=by rw[ho];simp[a1,a2]
       simp[vA,oN,h1,h3,h6,b1,b2,b3,b4,jx,ho,hA];exact ih
theorem XM{us:List Tm}{y:Tm}(h:y∈us):y.eO<=Tm.fv us:=zG us y h
theorem HT(n N:Nat)(us:List Tm)(hN:N<=1000000000)(h1:Tm.br us<N)(h2:Tm.fv us<1000000000)(K M:Int)(s:List UInt8):∀(post pre:List Tm) (k:Nat),us=pre++post->post.length<k->
 ∃md,il 1 0 (bP (aC (aH (cD [iG N]) (n+1)) (n+1) yK) rj 1 k (XB (.ptr 0 0) (.int .i64 pre.length)) ⟨1,[.row [.int .i64 K,.int .i64 M,.str s,.sl (us.map Tm.aL)]],1,0⟩)=
   some (if Tm.ft eT post then .exit 3 else .ret,if Tm.ft eT post then FM 96 [] else FM 96 [(2,.bool false)],⟨1,[.row [.int .i64 K,.int .i64 M,.str s,.sl (us.map Tm.aL)]],0,md⟩)
 |[],pre,k+1,e,_=>by simp at e;subst e;have h5:AV.ah (us.map Tm.aL)=0:=bw _;exact⟨0,by simp[ag,yK,h5,Tm.ft]⟩
 |x::post,pre,k+1,e,hk=>by
   have hlu:=dE us;have g1:us[pre.length]? =some x:=by rw[e];simp
   have h5:AV.ah (us.map Tm.aL)=0:=bw _;have DP:pre.length<us.length:=by rw[e];simp
   have h6:((pre.length:Int)<(us.length:Int))=True:=eq_true (by omega);have h3:IntKind.i64.wrap ((pre.length:Int)+1)=(pre.length:Int)+1:=wrap_i64 (by omega) (by omega);have dJ:=Tm.bm x;have fx:=Tm.aY x;have cI:=ar x;have hx:x∈us:=by rw[e];simp
   have hs:=yC N x ⟨by have:=mq hx;omega,by have:=XM hx;omega⟩;obtain⟨md,ih⟩:=HT n N us hN h1 h2 K M s post (pre++[x]) k (by simp[e]) (by rw[List.length_cons] at hk;omega);simp only[List.length_append,List.length_cons,List.length_nil,Nat.zero_add] at ih;rw[show ((pre.length+1:Nat):Int)=(pre.length:Int)+1 by omega] at ih;rw[ag];rw[show Tm.ft eT (x::post)=(x.gu eT&&Tm.ft eT post) by simp[Tm.ft]];rw[dJ,fx] at hs
   cases ha:x.gu eT with
   |false=>rw[ha] at hs;exact⟨0,by simp[yK,rj,g1,h3,h5,h6,dJ,fx,cI,hs,aw,dO]⟩
   |true=>rw[ha] at hs;refine⟨md,?_⟩;simp[yK,rj,g1,h3,h5,h6,dJ,fx,cI,hs,aw,dO];exact ih
theorem Qa(C:Nat->List AV->af->Option (AV×af))(n k:Nat)(K M:Int)(s:List UInt8):il 1 0 (bP (aC C n yK) rj 1 (k+1) (XB (.ptr 0 0) (.int .i64 0)) ⟨1,[.row [.int .i64 K,.int .i64 M,.str s,.aF]],1,0⟩)=
 some (.exit 3,FM 96 [],⟨1,[.row [.int .i64 K,.int .i64 M,.str s,.aF]],0,0⟩):=by
 simp[ag,yK]
theorem JS(N:Nat)(hN:N<=1000000000)(hp:aX Tryz.prog (iG N)):aX Tryz.prog (iG (N+1)):=λaa v hv=>by
 unfold iG at hv;dsimp only at hv;split at hv
 .rename_i a;split at hv
  .rename_i x ha;split at hv
   .rename_i hc;rcases Nat.lt_or_ge x.size N with cY|hge
    .refine hp _ _ ?_;rw[cf ha,yC N x ⟨cY,hc.2⟩];exact hv
    cases hv;rw[dO,cf ha];have fW:=QB N x hge;have s1:=bJ x;have b1:=py x;have ZO:=dE x.aa;refine bL (n:=x.eO+9) (h':=h0) (bK (ss:=[iG N]) (by simp[hp])) ?_ rfl (by simp[AV.ah,AV.aJ,Tm.bC]);have dJ:=Tm.bm x;have fx:=Tm.aY x;have hl:=A1 x;have hr:=ar x;have hsb:=mC x;rw[gq]
    have acR:eT x=if x.aj=0 then decide (0<=x.bj)&&decide (x.bj<=2147483647)&&decide (x.az=[])&&decide (x.aa.length=0)
     else if x.aj=1 then decide (x.az=[])&&decide (x.aa.length=0)
     else if x.aj=2 then decide (x.bj=0)&&iR x.az&&decide (x.aa.length<=8)
     else false:=rfl
    rw[acR];rw[dJ,fx] at fW|-;by_cases k0:x.aj=0
    .rw[k0] at fW|-;by_cases c1:0<=x.bj
     .by_cases c2:x.bj<2147483648
      .have VM:(x.bj<=2147483647)=True:=eq_true (by omega)
       cases qU:x.az with
       |nil=>
         rw[qU] at fW;by_cases c4:x.aa.length=0
         .have DU:((x.aa.length:Int)=0)=True:=eq_true (by omega);have c5:x.aa=[]:=List.eq_nil_of_length_eq_zero c4;simp[oZ,Jn,fW,c1,c2,VM,c4,DU,c5,hl,hr,aw,dO,Tm.ft]
         .have DU:((x.aa.length:Int)=0)=False:=eq_false (by omega);have c5:(x.aa=[])=False:=eq_false (λh=>c4 (by rw[h];rfl));simp[oZ,Jn,fW,c1,c2,VM,c4,DU,c5,hl,hr,aw,dO]
       |cons c r=>rw[qU] at fW;simp[oZ,Jn,fW,c1,c2,VM,hl,hr,aw,dO]
      .have VM:(x.bj<=2147483647)=False:=eq_false (by omega);simp[oZ,Jn,fW,c1,c2,VM,hl,hr,aw,dO]
     .simp[oZ,Jn,fW,c1,hl,hr,aw,dO]
    .by_cases k1:x.aj=1
     .rw[k1] at fW|-
      cases qU:x.az with
      |nil=>
        rw[qU] at fW;by_cases c4:x.aa.length=0
        .have DU:((x.aa.length:Int)=0)=True:=eq_true (by omega);have c5:x.aa=[]:=List.eq_nil_of_length_eq_zero c4;simp[oZ,Jn,fW,c4,DU,c5,hl,hr,aw,dO,Tm.ft]
        .have DU:((x.aa.length:Int)=0)=False:=eq_false (by omega);have c5:(x.aa=[])=False:=eq_false (λh=>c4 (by rw[h];rfl));simp[oZ,Jn,fW,c4,DU,c5,hl,hr,aw,dO]
      |cons c r=>rw[qU] at fW;simp[oZ,Jn,fW,hl,hr,aw,dO]
     .by_cases k2:x.aj=2
      .rw[k2] at fW|-;by_cases c1:x.bj=0
       .rw[c1] at fW|-;by_cases c2:x.az.length<=64
        .have VM:((64:Int)<(x.az.length:Int))=False:=eq_false (by omega);by_cases c3:x.aa.length<=8
         .have c3':((8:Int)<(x.aa.length:Int))=False:=eq_false (by omega);have lp0:=Hf (aH (cD [iG N]) (x.eO+8)) (x.eO+8) x.az (by omega) 2 0 x.bh hr x.az [] (x.eO+8) rfl (by omega);simp only[List.length_nil,oN,show ((0:Nat):Int)=0 from rfl] at lp0
          cases hao:jx x.az with
          |false=>
            rw[hao] at lp0;simp only[Bool.false_eq_true,if_false] at lp0;have VJ:iR x.az=false:=by simp[iR,hao]
            simp[oZ,Jn,oN,fW,VM,c3',VJ,hl,hr,lp0,aw,dO]
          |true=>
            rw[hao] at lp0;simp only[if_true] at lp0;have VJ:iR x.az=true:=by simp[iR,hao,c2]
            cases x with
            |nl kk nn ss=>simp only[Tm.bh,Tm.aj,Tm.bj,Tm.az,Tm.aa] at *;have lp1:=Qa (aH (cD [iG N]) ((Tm.nl kk nn ss).eO+8)) ((Tm.nl kk nn ss).eO+8) ((Tm.nl kk nn ss).eO+7) 2 0 ss;simp only[rj] at lp1;simp[oZ,Jn,oN,rj,fW,VM,VJ,lp0,lp1,dO,Tm.ft]
            |mk kk nn ss us=>
              simp only[Tm.bh,Tm.aj,Tm.bj,Tm.az,Tm.aa] at *;have h5:=bw us;obtain⟨md1,lp1⟩:=HT ((Tm.mk kk nn ss us).eO+7) N us hN (by omega) (by omega) 2 0 ss us [] ((Tm.mk kk nn ss us).eO+8) rfl (by omega);simp only[List.length_nil,rj,show ((0:Nat):Int)=0 from rfl] at lp1
              cases hal:Tm.ft eT us with
              |false=>rw[hal] at lp1;simp only[Bool.false_eq_true,if_false] at lp1;simp[oZ,Jn,oN,rj,fW,VM,c3',VJ,h5,lp0,lp1,dO,c3,hal]
              |true=>rw[hal] at lp1;simp only[if_true] at lp1;simp[oZ,Jn,oN,rj,fW,VM,c3',VJ,h5,lp0,lp1,dO,c3,hal]
         .have c3':((8:Int)<(x.aa.length:Int))=True:=eq_true (by omega);simp[oZ,Jn,fW,VM,c3',c3,hl,hr,aw,dO]
        .have VM:((64:Int)<(x.az.length:Int))=True:=eq_true (by omega);have VJ:iR x.az=false:=by simp[iR,c2]
         simp[oZ,Jn,fW,VM,VJ,hl,hr,aw,dO]
       .simp[oZ,Jn,fW,c1,hl,hr,aw,dO]
      .simp[oZ,Jn,fW,k0,k1,k2,hl,hr,aw,dO]
   .cases hv
  .cases hv
 .cases hv
theorem I0:aX Tryz.prog (iG 0):=λaa v hv=>by
 unfold iG at hv;dsimp only at hv;split at hv
 .split at hv
  .split at hv
   .rename_i hc;omega
   .cases hv
  .cases hv
 .cases hv
theorem Co:∀N,N<=1000000001->aX Tryz.prog (iG N)
 |0,_=>I0
 |N+1,h=>JS N (by omega) (Co N (by omega))
def nM:aW:=⟨52,λ|[v]=>(match fK v with|some t=>if t.eO<1000000000 then some (.bool (dp t)) else none|none=>none)|_=>none⟩
theorem eA:nM.f=52:=(rfl)
theorem HZ(t:Tm)(h:t.eO<1000000000):nM.S [t.aL]=some (.bool (dp t)):=by simp only[nM,cd,if_pos h]
theorem IG:aX Tryz.prog nM:=λaa v hv=>by
 unfold nM at hv|-;dsimp only at hv|-;split at hv
 .rename_i x;split at hv
  .rename_i t ht;split at hv
   .rename_i hl;cases hv;rw[cf ht];refine bL (n:=5) (h':=h0) (bK (ss:=[jW 1000000000,ij 64,iG 1000000000]) (by simp[CC 1000000000 (by omega),zp 64 (by omega),Co 1000000000 (by omega)])) ?_ rfl (by simp[AV.ah,Tm.bC]);have hsb:=mC t;have c1:=yA 1000000000 t 2000 ⟨by omega,by omega,by omega⟩;have c2:=CA 64 t (by omega);have c3:=yC 1000000000 t ⟨by omega,hl⟩;have hlw:=HL t 2000 (by omega);have dJ:=Tm.bm t;have dq:=Tm.aY t;have cI:=ar t;rw[show ((64:Nat):Int)=64 from rfl] at c2;unfold dp;rw[dJ,dq] at c1 c2 c3|-;by_cases d1:t.size<=2000
    .have e1:=hlw.1 (by omega);have d1':(jz t 2000<=2000)=True:=eq_true (by omega);by_cases d2:t.eZ<=64
     .have d2':(((min t.eZ (64+1):Nat):Int)<=64)=True:=eq_true (by omega);generalize jz t 2000=z at *;generalize min t.eZ (64+1)=y at *;simp[XE,c52,c1,c2,c3,cI,d1,d2,d1',d2',aw,nI,jm,dO]
     .have d2':(((min t.eZ (64+1):Nat):Int)<=64)=False:=eq_false (by omega);generalize jz t 2000=z at *;generalize min t.eZ (64+1)=y at *;simp[XE,c52,c1,c2,c3,cI,d1,d2,d1',d2',aw,nI,jm,dO]
    .have e1:=hlw.2 (by omega);have d1':(jz t 2000<=2000)=False:=eq_false (by omega);simp[XE,c52,c1,c2,c3,cI,d1,d1',aw,nI,jm,dO]
   .cases hv
  .cases hv
 .cases hv
def GM(k n:Int)(s:List UInt8):List Tm->Tm
 |[]=>.nl k n s
 |x::r=>.mk k n s (x::r)
mutual
def dC:Tm->Tm
 |.nl k n s=>.nl k n s
 |.mk k n s us=>GM k n s (aaF us)
def aaF:List Tm->List Tm
 |[]=>[]
 |t::r=>dC t::aaF r
end
theorem LD:∀us:List Tm,aaF us=us.map dC
 |[]=>rfl
 |x::r=>by simp[aaF,LD r]
theorem wU(t:Tm):dC t=GM t.aj t.bj t.az (t.aa.map dC):=by
 cases t with
 |nl k n s=>rfl
 |mk k n s us=>rw[dC,LD];rfl
def lf(N:Nat):aW:=⟨23,λ|[v]=>(match fK v with|some t=>if t.size<N then some (dC t).aL else none|none=>none)|_=>none⟩
theorem kz(N:Nat):(lf N).f=23:=(rfl)
theorem su(N:Nat)(x:Tm)(h:x.size<N):(lf N).S [x.aL]=some (dC x).aL:=by simp only[lf,cd,if_pos h]
theorem UX(N:Nat)(x:Tm)(h:N<=x.size):(lf N).S [x.aL]=none:=by simp only[lf,cd];rw[if_neg (by omega)]
theorem K4(n N:Nat)(us:List Tm)(hN:N<=1000000000)(h1:Tm.br us<N)(K M:Int)(s:List UInt8):∀(post pre aM:List Tm) (k:Nat),us=pre++post->aM.length=pre.length->aM≠[]->post.length<k->
 ∃md,il 3 0 (bP (aC (aH (cD [lf N]) (n+1)) (n+1) vY) qY 3 k (PH (.ptr 0 0) (.ptr 1 0) (.ptr 2 0) (.int .i64 pre.length)) ⟨4,[.row (ay aM),.row [.int .i64 K,.int .i64 M,.str s,.vec 3 0 aM.length 4 aM.length],.row zT,.row [.int .i64 K,.int .i64 M,.str s,.sl (us.map Tm.aL)]],2,0⟩)=
   some (.exit 0,FM 31 [(2,.ptr 1 0),(3,.ptr 2 0)],⟨4,[.row (ay (aM++post.map dC)),.row [.int .i64 K,.int .i64 M,.str s,.vec 3 0 (aM++post.map dC).length 4 (aM++post.map dC).length],.row zT,.row [.int .i64 K,.int .i64 M,.str s,.sl (us.map Tm.aL)]],0,md⟩)
 |[],pre,aM,k+1,e,ea,_,_=>by simp at e;subst e;have h5:AV.ah (us.map Tm.aL)=0:=bw _;have hf:=aU aM;exact⟨0,by simp[ag,vY,h5,hf,zT]⟩
 |x::post,pre,aM,k+1,e,ea,eR,hk=>by
   have hlu:=dE us;have g1:us[pre.length]? =some x:=by rw[e];simp
   have h5:AV.ah (us.map Tm.aL)=0:=bw _;have hf:=aU aM;have DP:pre.length<us.length:=by rw[e];simp
   have h6:((pre.length:Int)<(us.length:Int))=True:=eq_true (by omega);have h3:IntKind.i64.wrap ((pre.length:Int)+1)=(pre.length:Int)+1:=wrap_i64 (by omega) (by omega);have dJ:=Tm.bm x;have fx:=Tm.aY x;have cI:=ar x;have hx:x∈us:=by rw[e];simp
   have hs:=su N x (by have:=mq hx;omega);obtain⟨md,ih⟩:=K4 n N us hN h1 K M s post (pre++[x]) (aM++[dC x]) k (by simp[e]) (by simp[ea]) (by simp) (by rw[List.length_cons] at hk;omega);refine⟨md,?_⟩;have DV:(dC x).aL=.agg (dC x).cells:=Tm.bm _;have qj:=ar (dC x);have ju:AV.ah (ay aM++(dC x).cells)=0:=by rw[<-me];exact aU _
   rw[dJ,fx] at hs;have em:(x::post).map dC=dC x::post.map dC:=rfl;rw[em];generalize dC x=y at *;have rH:=Tm.aY y;rw[rH] at ju;have h8:(aM.length+1)*56<=140737488355328:=by omega
   have h9:aM.length+1<9223372036854775808:=by omega
   have jZ:(ay aM).take (aM.length*4)=ay aM:=by rw[List.take_of_length_le];rw[cG];exact Nat.le_refl _
   have qT:=cG aM;simp only[List.length_append,List.length_cons,List.length_nil,Nat.zero_add,me,rH,List.append_assoc] at ih;rw[show ((pre.length+1:Nat):Int)=(pre.length:Int)+1 by omega] at ih;rw[ag];simp[vY,qY,g1,h3,h5,h6,hf,ju,h8,h9,jZ,qT,dJ,fx,cI,DV,rH,qj,hs,aw,kz,aG,zT];simp only[zT] at ih;refine Eq.trans ih ?_;simp[ay,rH,Nat.add_comm,Nat.add_left_comm,Nat.add_assoc]
theorem PG(C:Nat->List AV->af->Option (AV×af))(n k:Nat)(K M:Int)(s:List UInt8)(A:AV)(hA:A=.aF\/A=.sl []):
 il 3 0 (bP (aC C n vY) qY 3 (k+1) (PH (.ptr 0 0) (.ptr 1 0) (.ptr 2 0) (.int .i64 0)) ⟨3,[.row [.int .i64 K,.int .i64 M,.str s,.aF],.row zT,.row [.int .i64 K,.int .i64 M,.str s,A]],3,0⟩)=
  some (.exit 0,FM 31 [(2,.ptr 1 0),(3,.ptr 2 0)],⟨3,[.row [.int .i64 K,.int .i64 M,.str s,.aF],.row zT,.row [.int .i64 K,.int .i64 M,.str s,A]],0,0⟩):=by
 rcases hA with rfl|rfl<;>simp[ag,vY,zT]
theorem UF(n N:Nat)(x:Tm)(r:List Tm)(hN:N<=1000000000)(h1:Tm.br (x::r)<N)(K M:Int)(s:List UInt8)(k:Nat)(hk:r.length+1<k):
 ∃md,il 3 0 (bP (aC (aH (cD [lf N]) (n+1)) (n+1) vY) qY 3 k (PH (.ptr 0 0) (.ptr 1 0) (.ptr 2 0) (.int .i64 0)) ⟨3,[.row [.int .i64 K,.int .i64 M,.str s,.aF],.row zT,.row [.int .i64 K,.int .i64 M,.str s,.sl ((x::r).map Tm.aL)]],3,0⟩)=
   some (.exit 0,FM 31 [(2,.ptr 1 0),(3,.ptr 2 0)],⟨4,[.row (ay ((x::r).map dC)),.row [.int .i64 K,.int .i64 M,.str s,.vec 3 0 (r.length+1) 4 (r.length+1)],.row zT,.row [.int .i64 K,.int .i64 M,.str s,.sl ((x::r).map Tm.aL)]],0,md⟩):=by
 obtain⟨k,rfl⟩:∃k',k=k'+1:=⟨k-1,by omega⟩
 have h5:AV.ah (r.map Tm.aL)=0:=bw _;have h6:((0:Int)<(r.length:Int)+1)=True:=eq_true (by omega);have h3:IntKind.i64.wrap (0+1)=1:=rfl;have h3':IntKind.i64.wrap 1=1:=rfl;have dJ:=Tm.bm x;have fx:=Tm.aY x;have cI:=ar x;have hs:=su N x (by simp only[Tm.br] at h1;omega);obtain⟨md,ih⟩:=K4 n N (x::r) hN h1 K M s r [x] [dC x] k rfl rfl (by simp) (by omega);refine⟨md,?_⟩;have DV:(dC x).aL=.agg (dC x).cells:=Tm.bm _;have qj:=ar (dC x);rw[dJ,fx] at hs;have em:(x::r).map dC=dC x::r.map dC:=rfl;rw[em];generalize dC x=y at *;have rH:=Tm.aY y;simp only[List.length_append,List.length_cons,List.length_nil,Nat.zero_add,rH,zT,ay,List.flatMap_cons,List.flatMap_nil,List.append_nil,List.map_cons,dJ,fx] at ih;rw[ag];simp[vY,qY,h3,h3',h5,h6,dJ,fx,cI,DV,rH,qj,hs,aw,kz,aG,zT];refine Eq.trans ih ?_;simp[ay,rH,Nat.add_comm,Nat.add_left_comm,Nat.add_assoc]
theorem LS(N:Nat)(hN:N<=1000000000)(hp:aX Tryz.prog (lf N)):aX Tryz.prog (lf (N+1)):=λaa v hv=>by
 unfold lf at hv;dsimp only at hv;split at hv
 .rename_i a;split at hv
  .rename_i x ha;split at hv
   .rename_i hc;rcases Nat.lt_or_ge x.size N with cY|hge
    .refine hp _ _ ?_;rw[cf ha,su N x cY];exact hv
    cases hv;rw[kz,cf ha];have fW:=UX N x hge;have s1:=bJ x;have ZO:=dE x.aa;refine bL (n:=x.size+5) (h':=h0) (bK (ss:=[lf N]) (by simp[hp])) ?_ (Tm.bC _) (by simp[AV.ah,AV.aJ,Tm.bC]);have dJ:=Tm.bm x;have fx:=Tm.aY x;rw[wU];rw[dJ,fx] at fW|-;by_cases eR:x.aa=[]
    .have a1:x.bh=.aF\/x.bh=.sl []:=by
      cases x with
      |nl k n s=>exact .inl rfl
      |mk k n s us=>simp only[Tm.aa] at eR;subst eR;exact .inr rfl
     have lp:=PG (aH (cD [lf N]) (x.size+4)) (x.size+4) (x.size+3) x.aj x.bj x.az x.bh a1;simp only[qY,zT] at lp;rw[eR];have em:(GM x.aj x.bj x.az (List.map dC [])).aL=.agg [.int .i64 x.aj,.int .i64 x.bj,.str x.az,.aF]:=rfl;rw[em];rcases a1 with a1|a1<;>rw[a1] at fW lp|-<;>simp[ac6,c23,qY,fW,kz,lp]
    .obtain⟨y,r,ha⟩:∃y r,x.aa=y::r:=by
      cases h:x.aa with
      |nil=>exact absurd h eR
      |cons y r=>exact⟨y,r,rfl⟩
     have a1:x.bh=.sl (x.aa.map Tm.aL):=by
      cases x with
      |nl k n s=>exact absurd rfl eR
      |mk k n s us=>rfl
     have h5:=bw x.aa;rw[ha] at s1 ZO h5;obtain⟨md,lp⟩:=UF (x.size+3) N y r hN (by omega) x.aj x.bj x.az (x.size+4) (by simp at ZO;omega);simp only[qY,zT] at lp;have ju:=aU ((y::r).map dC);have em:(GM x.aj x.bj x.az ((y::r).map dC)).aL=.agg [.int .i64 x.aj,.int .i64 x.bj,.str x.az,.sl (((y::r).map dC).map Tm.aL)]:=by simp[GM,Tm.aL,jb,Tm.uR]
     have hf:∀(A B C:aT) (wl md d:Nat),jL ⟨4,[.row (ay ((y::r).map dC)),A,B,C],wl,md⟩ 0 (d+2) (.vec 3 0 (r.length+1) 4 (r.length+1))=some (.sl (((y::r).map dC).map Tm.aL),[3]):=λA B C wl md d=>by have:=Yz (h:=⟨4,[.row (ay ((y::r).map dC)),A,B,C],wl,md⟩) (n0:=0) (d:=d) (id:=3) (dC y) (r.map dC) (by omega) rfl;simpa using this
     rw[a1] at fW|-;rw[ha,em];rw[ha] at fW;generalize (y::r).map dC=Z at *;generalize (y::r).map Tm.aL=E at *;simp[ac6,c23,qY,fW,h5,ju,hf,lp,kz,Cr]
   .cases hv
  .cases hv
 .cases hv
theorem LX:aX Tryz.prog (lf 0):=λaa v hv=>by
 unfold lf at hv;dsimp only at hv;split at hv
 .split at hv
  .split at hv
   .rename_i hc;omega
   .cases hv
  .cases hv
 .cases hv
theorem Gh:∀N,N<=1000000001->aX Tryz.prog (lf N)
 |0,_=>LX
 |N+1,h=>LS N (by omega) (Gh N (by omega))
mutual
theorem E4:∀t:Tm,rT t t=true
 |.nl k n s=>by simp[rT,Tm.aj,Tm.bj,Tm.az,Tm.aa]
 |.mk k n s us=>by simp[rT,Tm.aj,Tm.bj,Tm.az,Tm.aa,EK us]
theorem EK:∀l:List Tm,oA l l=true
 |[]=>by simp[oA]
 |t::r=>by simp[oA,E4 t,EK r]
end
theorem se(k n:Int)(s:List UInt8)(us:List Tm):(GM k n s us).aj=k/\(GM k n s us).bj=n/\(GM k n s us).az=s/\(GM k n s us).aa=us:=by cases us<;>exact⟨rfl,rfl,rfl,rfl⟩
theorem Me(t:Tm):(dC t).aj=t.aj:=by rw[wU];exact (se _ _ _ _).1
theorem Q0(t:Tm):(dC t).bj=t.bj:=by rw[wU];exact (se _ _ _ _).2.1
theorem KS(t:Tm):(dC t).az=t.az:=by rw[wU];exact (se _ _ _ _).2.2.1
theorem rI(t:Tm):(dC t).aa=t.aa.map dC:=by rw[wU];exact (se _ _ _ _).2.2.2
theorem aaP(t:Tm):(dC t).aa.length=t.aa.length:=by rw[rI,List.length_map]
mutual
theorem Lw:∀t:Tm,(dC t).size=t.size
 |.nl ..=>rfl
 |.mk k n s us=>by rw[bJ (dC _),rI,Tm.aa,HK us,Tm.size]
theorem HK:∀l:List Tm,Tm.br (l.map dC)=Tm.br l
 |[]=>rfl
 |t::r=>by simp only[List.map_cons,Tm.br,Lw t,HK r]
end
mutual
theorem F1:∀t:Tm,(dC t).eO=t.eO
 |.nl ..=>rfl
 |.mk k n s us=>by rw[py (dC _),rI,KS,Tm.aa,Tm.az,Hq us,Tm.eO]
theorem Hq:∀l:List Tm,Tm.fv (l.map dC)=Tm.fv l
 |[]=>rfl
 |t::r=>by simp only[List.map_cons,Tm.fv,F1 t,Hq r]
end
mutual
theorem HU:∀t:Tm,(dC t).eZ=t.eZ
 |.nl ..=>rfl
 |.mk k n s us=>by rw[pS (dC _),rI,Tm.aa,ER us,Tm.eZ]
theorem ER:∀l:List Tm,Tm.iX (l.map dC)=Tm.iX l
 |[]=>rfl
 |t::r=>by simp only[List.map_cons,Tm.iX,HU t,ER r]
end
theorem aaO(t:Tm):eT (dC t)=eT t:=by unfold eT;rw[Me,Q0,KS,aaP]
mutual
theorem RU:∀t:Tm,(dC t).gu eT=t.gu eT
 |.nl ..=>rfl
 |.mk k n s us=>by rw[gq (p:=eT) (dC _),aaO,rI,Tm.aa,MD us,Tm.gu]
theorem MD:∀l:List Tm,Tm.ft eT (l.map dC)=Tm.ft eT l
 |[]=>rfl
 |t::r=>by simp only[List.map_cons,Tm.ft,RU t,MD r]
end
theorem Fs(t:Tm):dp (dC t)=dp t:=by unfold dp;rw[Lw,HU,RU]
theorem Ad(n:Nat):∀l:List UInt8,decide (0<=lF n l)=l.any λd=>decide (d.toNat=n)
 |[]=>rfl
 |d::r=>by
   unfold lF;rw[List.any_cons];by_cases h:d.toNat=n
   .have:Nat.beq d.toNat n=true:=by rw[h];exact Nat.beq_refl n
    rw[this,if_pos rfl,decide_eq_true h];rfl
   .have:Nat.beq d.toNat n=false:=by
     cases hb:Nat.beq d.toNat n with
     |false=>rfl
     |true=>exact absurd (Nat.eq_of_beq_eq_true hb) h
    rw[this,if_neg (by simp),decide_eq_false h,Bool.false_or,<-Ad n r]
    cases lF n r with
    |ofNat k=>simp;omega
    |negSucc k=>simp
def Z3(f:Nat)(p:UInt8->Bool):aW:=⟨f,λ|[.int .u8 n]=>if 0<=n/\n<256 then some (.bool (p (UInt8.ofNat n.toNat))) else none|_=>none⟩
theorem ru(f:Nat)(p:UInt8->Bool)(c:UInt8):(Z3 f p).S [.int .u8 c.toNat]=some (.bool (p c)):=by
 have h:=c.toNat_lt;have e:UInt8.ofNat (c.toNat:Int).toNat=c:=by simp
 simp only[Z3,e];rw[if_pos (by omega)]
theorem BA{f:Nat}{p:UInt8->Bool}(h:∀c:UInt8,VZ Tryz.prog f [.int .u8 c.toNat] (.bool (p c))):aX Tryz.prog (Z3 f p):=λaa v hv=>by
 unfold Z3 at hv;dsimp only at hv;split at hv
 .rename_i n;split at hv
  .rename_i hc;cases hv;have e:n=((UInt8.ofNat n.toNat).toNat:Int):=by rw[UInt8.toNat_ofNat'];omega
   have:=h (UInt8.ofNat n.toNat);rw[<-e] at this;exact this
  .cases hv
 .cases hv
def vu:aW:=Z3 75 ll
theorem HQ:aX Tryz.prog vu:=BA λc=>by
 refine bL (n:=4) (h':=h0) (bK (ss:=[]) (by simp)) ?_ rfl rfl;unfold ll;have e97:((97:Int)<=(c.toNat:Int))=(97<=c.toNat):=propext ⟨λh=>by omega,λh=>by omega⟩;have agY:((c.toNat:Int)<=122)=(c.toNat<=122):=propext ⟨λh=>by omega,λh=>by omega⟩;by_cases h1:97<=c.toNat
 .by_cases h2:c.toNat<=122
  .simp[YO,c75,e97,agY,h1,h2]
  .simp[YO,c75,e97,agY,h1,h2]
 .simp[YO,c75,e97,agY,h1]
def ve:aW:=Z3 78 dN
theorem FJ:aX Tryz.prog ve:=BA λc=>by
 refine bL (n:=4) (h':=h0) (bK (ss:=[]) (by simp)) ?_ rfl rfl;unfold dN;have e48:((48:Int)<=(c.toNat:Int))=(48<=c.toNat):=propext ⟨λh=>by omega,λh=>by omega⟩;have e57:((c.toNat:Int)<=57)=(c.toNat<=57):=propext ⟨λh=>by omega,λh=>by omega⟩;by_cases h1:48<=c.toNat
 .by_cases h2:c.toNat<=57
  .simp[Xz,c78,e48,e57,h1,h2]
  .simp[Xz,c78,e48,e57,h1,h2]
 .simp[Xz,c78,e48,e57,h1]
def vm:aW:=Z3 77 lB
theorem Hn:aX Tryz.prog vm:=BA λc=>by
 refine bL (n:=4) (h':=h0) (bK (ss:=[]) (by simp)) ?_ rfl rfl;unfold lB;have e65:((65:Int)<=(c.toNat:Int))=(65<=c.toNat):=propext ⟨λh=>by omega,λh=>by omega⟩;have e90:((c.toNat:Int)<=90)=(c.toNat<=90):=propext ⟨λh=>by omega,λh=>by omega⟩;have e:((c.toNat:Int)=95)=(c.toNat=95):=propext ⟨λh=>by omega,λh=>by omega⟩;by_cases h1:65<=c.toNat
 .by_cases h2:c.toNat<=90
  .simp[M1,c77,e65,e90,h1,h2]
  .by_cases h3:c.toNat=95
   .simp[M1,c77,e65,e90,h1,h2,h3,e]
   .simp[M1,c77,e65,e90,h1,h2,h3,e]
 .by_cases h3:c.toNat=95
  .simp[M1,c77,e65,e90,h1,h3,e]
  .simp[M1,c77,e65,e90,h1,h3,e]
def Lc:aW:=Z3 76 ml
theorem Xv:aX Tryz.prog Lc:=BA λc=>by
 refine bL (n:=4) (h':=h0) (bK (ss:=[vu,vm,ve]) (by simp[HQ,Hn,FJ])) ?_ rfl rfl;have c1:vu.S [.int .u8 c.toNat]=_:=ru _ _ c;have c2:vm.S [.int .u8 c.toNat]=_:=ru _ _ c;have c3:ve.S [.int .u8 c.toNat]=_:=ru _ _ c;have f1:vu.f=75:=(rfl)
 have f2:vm.f=77:=(rfl)
 have f3:ve.f=78:=(rfl)
 unfold ml;cases h1:ll c<;>cases h2:lB c<;>cases h3:dN c<;>rw[h1] at c1<;>rw[h2] at c2<;>rw[h3] at c3<;>simp[aio,c76,c1,c2,c3,f1,f2,f3]
def nlS:aW:=Z3 74 lS
theorem aeH:aX Tryz.prog nlS:=BA λc=>by
 refine bL (n:=4) (h':=h0) (bK (ss:=[]) (by simp)) ?_ rfl rfl;unfold lS;have e:((c.toNat:Int)=10)=(c.toNat=10):=propext ⟨λh=>by omega,λh=>by omega⟩;by_cases h3:c.toNat=10
 .simp[ac7,c74,h3,e]
 .simp[ac7,c74,h3,e]
def Ud:aW:=Z3 82 tM
theorem Rh:aX Tryz.prog Ud:=BA λc=>by refine bL (n:=4) (h':=h0) (bK (ss:=[iB]) (by simp[nV])) ?_ rfl rfl;have c1:=fy U8 c;have e:tM c=decide (0<=lF c.toNat U8):=(Ad _ _).symm;rw[e];generalize lF c.toNat U8=x at *;simp only[U8] at c1;simp[ahL,c82,c1,aK]
theorem K7(C:Nat->List AV->af->Option (AV×af))(n g:Nat)(p:UInt8->Bool)(hC:∀(c:UInt8) (h:af),C g [.int .u8 c.toNat] h=some (.bool (p c),h))(s:List UInt8)(hl:s.length<1000000000)(i0:Int):
 ∀(post pre:List UInt8) (m:Nat) (md:Nat),s=pre++post->post.length<m->
 ∃cH,il 1 1 (bP (aC C n Fv) yu 1 m (aeF (.ptr 0 0) (.fn g []) (.int .i64 i0)) ⟨1,[.row [.str s,.int .i64 pre.length]],1,md⟩)=
   some (.exit 0,FM 50 [(0,.ptr 0 0),(5,.int .i64 i0)],⟨1,[.row [.str s,.int .i64 (pre.length+runN p post:Nat)]],1,cH⟩)
 |[],pre,m+1,md,e,_=>by simp at e;subst e;rw[ag];exact⟨md,by simp[Fv,yu,runN]⟩
 |c::post,pre,m+1,md,e,hm=>by
   have h1:s[pre.length]? =some c:=by rw[e];simp
   have DP:pre.length<s.length:=by rw[e];simp
   have h3:IntKind.i64.wrap ((pre.length:Int)+1)=(pre.length:Int)+1:=wrap_i64 (by omega) (by omega);have h6:((pre.length:Int)<(s.length:Int))=True:=eq_true (by omega);rw[ag];unfold runN
   cases hp:p c with
   |false=>exact⟨md,by simp[Fv,yu,h1,h6,hC,hp]⟩
   |true=>obtain⟨cH,ih⟩:=K7 C n g p hC s hl i0 post (pre++[c]) m 0 (by simp[e]) (by rw[List.length_cons] at hm;omega);refine⟨cH,?_⟩;simp only[List.length_append,List.length_cons,List.length_nil,Nat.zero_add,Int.natCast_add,Int.natCast_one] at ih;simp only[if_true];rw[show pre.length+(runN p post+1)=pre.length+1+runN p post by omega];simp[Fv,yu,h1,h3,h6,hC,hp];exact ih
theorem A3{s:List UInt8}{k q:Nat}(h:k+q<=s.length):sliceB s.length (some (.int .i64 k)) (some (.int .i64 (k+q:Nat)))=some (k,k+q)/\(s.take (k+q)).drop k=(s.drop k).take q:=by
 refine⟨?_,by rw[List.drop_take,Nat.add_sub_cancel_left]⟩;have a1:(0:Int)<=((k+q:Nat):Int)/\((k+q:Nat):Int)<=(s.length:Int):=by omega
 have a2:(k:Int)<=((k+q:Nat):Int):=by omega
 have a3:((k+q:Nat):Int).toNat=k+q:=by omega
 have a4:(k:Int)<=(k:Int)+(q:Int):=by omega
 generalize ((k+q:Nat):Int)=Q at *;simp[sliceB,a1,a2,a3,a4]
def yh(g:Nat):Option (UInt8->Bool):=if g=76 then some ml else if g=78 then some dN else if g=74 then some lS else none
def runM:cw:=⟨73,λ
 |[.ptr 0 0,.fn g []],[.row [.str s,.int .i64 i]]=>(match yh g with
   |some p=>if s.length<1000000000/\0<=i/\i<=s.length then some (.str ((s.drop i.toNat).take (runN p (s.drop i.toNat))),some [.row [.str s,.int .i64 (i.toNat+runN p (s.drop i.toNat):Nat)]]) else none
   |none=>none)
 |_,_=>none⟩
theorem jn:runM.f=73:=(rfl)
theorem J6(g:Nat)(p:UInt8->Bool)(hp:yh g=some p)(s:List UInt8)(k:Nat)(hl:s.length<1000000000)(hk:k<=s.length):
 runM.S [.ptr 0 0,.fn g []] [.row [.str s,.int .i64 k]]=some (.str ((s.drop k).take (runN p (s.drop k))),some [.row [.str s,.int .i64 (k+runN p (s.drop k):Nat)]]):=by
 simp only[runM,hp];rw[if_pos ⟨hl,by omega,by omega⟩,Int.toNat_natCast]
theorem aaM:Lc.f=76:=(rfl)
theorem jU:ve.f=78:=(rfl)
theorem aix:nlS.f=74:=(rfl)
def Z1:List aW:=[Lc,ve,nlS]
theorem adX:∀s∈Z1,aX Tryz.prog s:=by simp[Z1,Xv,FJ,aeH]
theorem aiq(n g:Nat)(p:UInt8->Bool)(hp:yh g=some p)(c:UInt8)(h:af):aH (cm Z1 []) (n+1) g [.int .u8 c.toNat] h=some (.bool (p c),h):=by
 have f1:Lc.f=76:=(rfl)
 have f2:ve.f=78:=(rfl)
 have f3:nlS.f=74:=(rfl)
 unfold yh at hp;split at hp
 .rename_i e;subst e;cases hp;have c1:Lc.S [.int .u8 c.toNat]=_:=ru _ _ c;simp[Z1,f1,f2,f3,c1]
 .split at hp
  .rename_i e;subst e;cases hp;have c1:ve.S [.int .u8 c.toNat]=_:=ru _ _ c;simp[Z1,f1,f2,f3,c1]
  .split at hp
   .rename_i e;subst e;cases hp;have c1:nlS.S [.int .u8 c.toNat]=_:=ru _ _ c;simp[Z1,f1,f2,f3,c1]
   .cases hp
theorem Ru:mP Tryz.prog runM:=λaa os v r hv=>by
 unfold runM at hv;dsimp only at hv;split at hv
 .rename_i g s i;split at hv
  .rename_i p hp;split at hv
   .rename_i hc;cases hv;obtain⟨k,rfl⟩:∃k:Nat,i=(k:Int):=⟨i.toNat,by omega⟩
    rw[Int.toNat_natCast,jn];have hk:k<=s.length:=by omega
    have hse:s=s.take k++s.drop k:=(List.take_append_drop k s).symm;have cY:(s.take k).length=k:=by rw[List.length_take];omega
    obtain⟨cH,lp⟩:=K7 (aH (cm Z1 []) (s.length+4)) (s.length+4) g p (λc h=>aiq (s.length+3) g p hp c h) s hc.1 k (s.drop k) (s.take k) (s.length+4) 1 hse (by rw[List.length_drop];omega);rw[cY] at lp;have oI:=qL p (s.drop k);rw[List.length_drop] at oI;obtain⟨oG,htd⟩:=A3 (s:=s) (k:=k) (q:=runN p (s.drop k)) (by omega);refine At (n:=s.length+5) (h1:=⟨1,[.row [.str s,.int .i64 (k+runN p (s.drop k):Nat)]],1,min 1 cH⟩) (wZ (ss:=Z1) (ms:=[]) adX (by simp)) ?_ rfl rfl rfl rfl;rw[wV];simp only[yu,Z1] at lp;generalize (s.drop k).take (runN p (s.drop k))=res at *;generalize k+runN p (s.drop k)=q at *;simp[Z1,afy,c73,yu,lp,oG,htd,aaM,jU,aix];omega
   .cases hv
  .cases hv
 .cases hv
theorem Ho(c:UInt8):([32,9,10,13]:List UInt8).any (λd=>decide (d.toNat=c.toNat))=iV c:=by
 simp only[List.any_cons,List.any_nil,Bool.or_false,iV]
 have e:∀n:Nat,decide (n=c.toNat)=decide (c.toNat=n):=λn=>by
  by_cases h:c.toNat=n
  .rw[decide_eq_true h,decide_eq_true h.symm]
  .rw[decide_eq_false h,decide_eq_false (Ne.symm h)]
 rw[show (32:UInt8).toNat=32 from rfl,show (9:UInt8).toNat=9 from rfl,show (10:UInt8).toNat=10 from rfl,show (13:UInt8).toNat=13 from rfl,e,e,e,e];simp[Bool.or_assoc]
def nv:List aW:=[iB]
theorem OH:∀s∈nv,aX Tryz.prog s:=by simp[nv,nV]
def VS:List cw:=[runM]
theorem afF:∀m∈VS,mP Tryz.prog m:=by simp[VS,Ru]
theorem Eg(n:Nat)(s:List UInt8)(hl:s.length<1000000000):∀(f k m md:Nat),k<=s.length->s.length-k<f->f<=m->
 ∃ex cH,(ex=.exit 0\/ex=.ret)/\il 1 1 (bP (aC (aH (cm nv VS) (n+1)) (n+1) Bf) uq 1 m (agi (.ptr 0 0)) ⟨1,[.row [.str s,.int .i64 k]],1,md⟩)=
   some (ex,FM 44 [],⟨1,[.row [.str s,.int .i64 (k+dW f (s.drop k):Nat)]],1,cH⟩)
 |0,k,m,md,_,h,_=>by omega
 |f+1,k,0,md,_,_,h=>by omega
 |f+1,k,m+1,md,hk,hf,hm=>by
   rw[ag];by_cases he:k=s.length
   .subst he;refine⟨.exit 0,md,.inl rfl,?_⟩;have:s.drop s.length=[]:=List.drop_length;rw[this];simp[Bf,uq,dW]
   .have hks:k<s.length:=by omega
    obtain⟨c,hc⟩:∃c,s[k]? =some c:=⟨s[k],List.getElem?_eq_getElem hks⟩
    have hd:s.drop k=c::s.drop (k+1):=by rw[List.drop_eq_getElem_cons hks];congr 1;rw[List.getElem?_eq_getElem hks] at hc;exact Option.some.inj hc
    have h6:((k:Int)<(s.length:Int))=True:=eq_true (by omega);have h3:IntKind.i64.wrap ((k:Int)+1)=(k:Int)+1:=wrap_i64 (by omega) (by omega);have c1:=fy [32,9,10,13] c;have e1:=Ad c.toNat [32,9,10,13];rw[Ho] at e1;generalize lF c.toNat [32,9,10,13]=x at c1 e1;rw[hd];unfold dW
    cases hb:iV c with
    |true=>rw[hb] at e1;have e2:(0<=x)=True:=eq_true (of_decide_eq_true e1);obtain⟨ex,cH,hex,ih⟩:=Eg n s hl f (k+1) m 0 (by omega) (by omega) (by omega);refine⟨ex,cH,hex,?_⟩;simp only[if_true];rw[show k+(dW f (s.drop (k+1))+1)=k+1+dW f (s.drop (k+1)) by omega];simp only[nv,VS,Int.natCast_add,Int.natCast_one] at ih;simp[nv,VS,Bf,uq,hc,h6,h3,c1,e2,aK,jn];exact ih
    |false=>
      rw[hb] at e1;have e2:(0<=x)=False:=eq_false (of_decide_eq_false e1);simp only[Bool.false_eq_true,if_false];by_cases h37:c.toNat=37
      .have e3:((c.toNat:Int)=37)=True:=eq_true (by omega);rw[if_pos h37];have hr:=J6 74 lS (by simp[yh]) s k hl hk;rw[hd] at hr
       have hrn:runN lS (c::s.drop (k+1))<=s.length-k:=by have:=qL lS (c::s.drop (k+1));rw[<-hd,List.length_drop] at this;rw[hd] at this;exact this
       have mH:1<=runN lS (c::s.drop (k+1)):=by
        unfold runN;have:lS c=true:=by unfold lS;rw[decide_eq_false (by omega)];rfl
        rw[this];simp
       obtain⟨ex,cH,hex,ih⟩:=Eg n s hl f (k+runN lS (c::s.drop (k+1))) m 0 (by omega) (by omega) (by omega);refine⟨ex,cH,hex,?_⟩;have hdd:(c::s.drop (k+1)).drop (runN lS (c::s.drop (k+1)))=s.drop (k+runN lS (c::s.drop (k+1))):=by rw[<-hd,List.drop_drop]
       rw[hdd];generalize hq:runN lS (c::s.drop (k+1))=q at *;rw[<-Nat.add_assoc];simp only[nv,VS,Int.natCast_add,Int.natCast_one] at ih;simp[nv,VS,Bf,uq,hc,h6,h3,c1,e2,e3,hr,aK,jn];exact ih
      .have e3:((c.toNat:Int)=37)=False:=eq_false (by omega);rw[if_neg h37];refine⟨.ret,md,.inr rfl,?_⟩;simp[nv,VS,Bf,uq,hc,h6,h3,c1,e2,e3,aK,jn]
theorem nc:∀(f:Nat) (l:List UInt8),dW f l<=l.length
 |0,l=>by simp[dW]
 |f+1,[]=>by simp[dW]
 |f+1,c::r=>by
   unfold dW;split
   .have:=nc f r;simp;omega
   .split
    .have h1:=nc f ((c::r).drop (runN lS (c::r)));have h2:=qL lS (c::r);rw[List.length_drop] at h1;omega
    .simp
def Fh:cw:=⟨44,λ
 |[.ptr 0 0],[.row [.str s,.int .i64 i]]=>if s.length<1000000000/\0<=i/\i<=s.length then some (.tuple [],some [.row [.str s,.int .i64 (i.toNat+dW (s.length+1) (s.drop i.toNat):Nat)]]) else none
 |_,_=>none⟩
theorem dx:Fh.f=44:=(rfl)
theorem D6(s:List UInt8)(k:Nat)(hl:s.length<1000000000)(hk:k<=s.length):
 Fh.S [.ptr 0 0] [.row [.str s,.int .i64 k]]=some (.tuple [],some [.row [.str s,.int .i64 (k+dW (s.length+1) (s.drop k):Nat)]]):=by
 simp only[Fh];rw[if_pos ⟨hl,by omega,by omega⟩,Int.toNat_natCast]
theorem X3:mP Tryz.prog Fh:=λaa os v r hv=>by
 unfold Fh at hv;dsimp only at hv;split at hv
 .rename_i s i;split at hv
  .rename_i hc;cases hv;obtain⟨k,rfl⟩:∃k:Nat,i=(k:Int):=⟨i.toNat,by omega⟩
   rw[Int.toNat_natCast,dx];obtain⟨ex,cH,hex,lp⟩:=Eg (s.length+4) s hc.1 (s.length+1) k (s.length+5) 1 (by omega) (by omega) (by omega);refine At (n:=s.length+6) (h1:=⟨1,[.row [.str s,.int .i64 (k+dW (s.length+1) (s.drop k):Nat)]],1,min 1 cH⟩) (wZ (ss:=nv) (ms:=VS) OH afF) ?_ rfl rfl rfl rfl;rw[wV];simp only[uq,nv,VS] at lp;generalize k+dW (s.length+1) (s.drop k)=q at *;rcases hex with rfl|rfl
   .simp[nv,VS,YB,c44,uq,lp,aK,jn];omega
   .simp[nv,VS,YB,c44,uq,lp,aK,jn];omega
  .cases hv
 .cases hv
theorem nO{s:List UInt8}{k:Nat}(h:k<s.length):∃c,s[k]? =some c/\s.drop k=c::s.drop (k+1):=⟨s[k],List.getElem?_eq_getElem h,by rw[List.drop_eq_getElem_cons h]⟩
theorem Ha(c:UInt8):iY [c]=decide (c.toNat=46):=by simp[iY]
theorem IK(c d:UInt8)(r:List UInt8):iY (c::d::r)=(decide (c.toNat=46)&&(iV d||decide (d.toNat=37))):=rfl
theorem Td{c:UInt8}{r:List UInt8}(h:¬c.toNat=46):iY (c::r)=false:=by
 cases r with
 |nil=>rw[Ha];exact decide_eq_false h
 |cons d r=>rw[IK,decide_eq_false h];rfl
def DZ:cw:=⟨81,λ
 |[.ptr 0 0],[.row [.str s,.int .i64 i]]=>if s.length<1000000000/\0<=i/\i<s.length then some (.bool (iY (s.drop i.toNat)),none) else none
 |_,_=>none⟩
theorem gW:DZ.f=81:=(rfl)
theorem M5(s:List UInt8)(k:Nat)(hl:s.length<1000000000)(hk:k<s.length):
 DZ.S [.ptr 0 0] [.row [.str s,.int .i64 k]]=some (.bool (iY (s.drop k)),none):=by
 simp only[DZ];rw[if_pos ⟨hl,by omega,by omega⟩,Int.toNat_natCast]
theorem Pa(c:UInt8):([32,9,10,13,37]:List UInt8).any (λd=>decide (d.toNat=c.toNat))=(iV c||decide (c.toNat=37)):=by
 have:=Ho c;simp only[List.any_cons,List.any_nil,Bool.or_false] at this|-;rw[<-this]
 have e:decide ((37:UInt8).toNat=c.toNat)=decide (c.toNat=37):=by
  by_cases h:c.toNat=37
  .rw[decide_eq_true h,decide_eq_true (show (37:UInt8).toNat=c.toNat from h.symm)]
  .rw[decide_eq_false h,decide_eq_false (show ¬(37:UInt8).toNat=c.toNat from λe=>h e.symm)]
 rw[e];simp[Bool.or_assoc]
theorem Nf:mP Tryz.prog DZ:=λaa os v r hv=>by
 unfold DZ at hv;dsimp only at hv;split at hv
 .rename_i s i;split at hv
  .rename_i hc;cases hv;obtain⟨k,rfl⟩:∃k:Nat,i=(k:Int):=⟨i.toNat,by omega⟩
   rw[Int.toNat_natCast,gW];obtain⟨c,h1,hd⟩:=nO (s:=s) (k:=k) (by omega);have h3:IntKind.i64.wrap ((k:Int)+1)=(k:Int)+1:=wrap_i64 (by omega) (by omega);refine Ih (n:=6) (h1:=⟨1,[.row [.str s,.int .i64 k]],1,1⟩) (wZ (ss:=nv) (ms:=[]) OH (by simp)) ?_ rfl rfl rfl rfl;rw[wV,hd];by_cases h46:c.toNat=46
   .have e1:((c.toNat:Int)=46)=True:=eq_true (by omega);by_cases akf:k+1=s.length
    .have hn:s.drop (k+1)=[]:=by rw[akf];exact List.drop_length
     have e2:((k:Int)+1=(s.length:Int))=True:=eq_true (by omega);rw[hn,Ha,decide_eq_true h46];simp[nv,Qw,c81,h1,h3,e1,e2,aK]
    .obtain⟨d,h2,hd2⟩:=nO (s:=s) (k:=k+1) (by omega);have e2:((k:Int)+1=(s.length:Int))=False:=eq_false (by omega);have c1:=fy [32,9,10,13,37] d;have e3:=Ad d.toNat [32,9,10,13,37];rw[Pa] at e3;generalize lF d.toNat [32,9,10,13,37]=x at c1 e3;have DW:((k:Int)+1).toNat=k+1:=by omega
     have an7:((0:Int)<=(k:Int)+1)=True:=eq_true (by omega);rw[hd2,IK,decide_eq_true h46,<-e3];simp[nv,Qw,c81,h1,h2,DW,an7,h3,e1,e2,c1,aK]
   .have e1:((c.toNat:Int)=46)=False:=eq_false (by omega);rw[Td h46];simp[nv,Qw,c81,h1,h3,e1,aK]
  .cases hv
 .cases hv
def Z9:List aW:=[Ud]
theorem agj:∀s∈Z9,aX Tryz.prog s:=by simp[Z9,Rh]
def msE:List cw:=[DZ]
theorem aer:∀m∈msE,mP Tryz.prog m:=by simp[msE,Nf]
theorem ke:Ud.f=82:=(rfl)
theorem RY(c:UInt8):Ud.S [.int .u8 c.toNat]=some (.bool (tM c)):=ru _ _ c
theorem Q3:∀l,kA l<=l.length
 |[]=>Nat.le_refl _
 |c::r=>by
   unfold kA;split
   .have:=Q3 r;simp;omega
   .simp
theorem Lt(n:Nat)(s:List UInt8)(hl:s.length<1000000000)(i0:Int):∀(post pre:List UInt8) (m:Nat) (md:Nat),s=pre++post->post.length<m->
 ∃cH,il 1 1 (bP (aC (aH (cm Z9 msE) (n+1)) (n+1) A6) vk 1 m (aec (.ptr 0 0) (.int .i64 i0)) ⟨1,[.row [.str s,.int .i64 pre.length]],1,md⟩)=
   some (.exit 0,FM 52 [(0,.ptr 0 0),(3,.int .i64 i0)],⟨1,[.row [.str s,.int .i64 (pre.length+kA post:Nat)]],1,cH⟩)
 |[],pre,m+1,md,e,_=>by simp at e;subst e;rw[ag];exact⟨md,by simp[A6,vk,kA]⟩
 |c::post,pre,m+1,md,e,hm=>by
   have h1:s[pre.length]? =some c:=by rw[e];simp
   have DP:pre.length<s.length:=by rw[e];simp
   have hdp:s.drop pre.length=c::post:=by rw[e];simp
   have h3:IntKind.i64.wrap ((pre.length:Int)+1)=(pre.length:Int)+1:=wrap_i64 (by omega) (by omega);have h6:((pre.length:Int)<(s.length:Int))=True:=eq_true (by omega);have c1:=RY c;have c2:=M5 s pre.length hl DP;rw[hdp] at c2;rw[ag];unfold kA
   cases hp:tM c with
   |false=>rw[hp] at c1;exact⟨md,by simp[Z9,msE,A6,vk,h1,h6,c1,ke,gW]⟩
   |true=>
     rw[hp] at c1
     cases hq:iY (c::post) with
     |true=>rw[hq] at c2;exact⟨md,by simp[Z9,msE,A6,vk,h1,h6,c1,c2,ke,gW]⟩
     |false=>rw[hq] at c2;obtain⟨cH,ih⟩:=Lt n s hl i0 post (pre++[c]) m 0 (by simp[e]) (by rw[List.length_cons] at hm;omega);refine⟨cH,?_⟩;simp only[List.length_append,List.length_cons,List.length_nil,Nat.zero_add,Z9,msE,Int.natCast_add,Int.natCast_one] at ih;simp only[Bool.not_false,Bool.and_self,if_true];rw[show pre.length+(kA post+1)=pre.length+1+kA post by omega];simp[Z9,msE,A6,vk,h1,h3,h6,c1,c2,ke,gW];exact ih
def IQ:cw:=⟨83,λ
 |[.ptr 0 0],[.row [.str s,.int .i64 i]]=>if s.length<1000000000/\0<=i/\i<=s.length then some (.str ((s.drop i.toNat).take (kA (s.drop i.toNat))),some [.row [.str s,.int .i64 (i.toNat+kA (s.drop i.toNat):Nat)]]) else none
 |_,_=>none⟩
theorem jR:IQ.f=83:=(rfl)
theorem WO(s:List UInt8)(k:Nat)(hl:s.length<1000000000)(hk:k<=s.length):
 IQ.S [.ptr 0 0] [.row [.str s,.int .i64 k]]=some (.str ((s.drop k).take (kA (s.drop k))),some [.row [.str s,.int .i64 (k+kA (s.drop k):Nat)]]):=by
 simp only[IQ];rw[if_pos ⟨hl,by omega,by omega⟩,Int.toNat_natCast]
theorem YR:mP Tryz.prog IQ:=λaa os v r hv=>by
 unfold IQ at hv;dsimp only at hv;split at hv
 .rename_i s i;split at hv
  .rename_i hc;cases hv;obtain⟨k,rfl⟩:∃k:Nat,i=(k:Int):=⟨i.toNat,by omega⟩
   rw[Int.toNat_natCast,jR];have hk:k<=s.length:=by omega
   have hse:s=s.take k++s.drop k:=(List.take_append_drop k s).symm;have cY:(s.take k).length=k:=by rw[List.length_take];omega
   obtain⟨cH,lp⟩:=Lt (s.length+4) s hc.1 k (s.drop k) (s.take k) (s.length+5) 1 hse (by rw[List.length_drop];omega);rw[cY] at lp;have oI:=Q3 (s.drop k);rw[List.length_drop] at oI;obtain⟨oG,htd⟩:=A3 (s:=s) (k:=k) (q:=kA (s.drop k)) (by omega);refine At (n:=s.length+6) (h1:=⟨1,[.row [.str s,.int .i64 (k+kA (s.drop k):Nat)]],1,min 1 cH⟩) (wZ (ss:=Z9) (ms:=msE) agj aer) ?_ rfl rfl rfl rfl;rw[wV];simp only[vk,Z9,msE] at lp;generalize (s.drop k).take (kA (s.drop k))=res at *;generalize k+kA (s.drop k)=q at *;simp[Z9,msE,aeR,c83,vk,lp,oG,htd,ke,gW];omega
  .cases hv
 .cases hv
def db(l:List UInt8):List AV:=l.map λc=>.int .u8 c.toNat
theorem lV(l:List UInt8):(db l).length=l.length:=by simp[db]
theorem mu(l:List UInt8)(c:UInt8):db (l++[c])=db l++[.int .u8 c.toNat]:=by simp[db]
theorem gG:∀l:List UInt8,AV.ah (db l)=0
 |[]=>rfl
 |c::r=>by have:=gG r;unfold db at this|-;simp[AV.ah,AV.aJ,this]
theorem sW:∀l:List UInt8,bytesOf (db l)=some l
 |[]=>rfl
 |c::r=>by have:=sW r;unfold db at this|-;simp[bytesOf,this]
theorem SC(d:UInt8):(∀b,GQ d=some b->∃i:Nat,lF d.toNat [110,116,92,39]=(i:Int)/\([10,9,92,39]:List UInt8)[i]? =some b)/\(GQ d=none->lF d.toNat [110,116,92,39]=-1):=by
 have nb:∀a:Nat,a≠d.toNat->Nat.beq a d.toNat=false:=λa h=>by
  cases hb:Nat.beq a d.toNat with
  |false=>rfl
  |true=>exact absurd (Nat.eq_of_beq_eq_true hb) h
 have yb:∀a:Nat,a=d.toNat->Nat.beq a d.toNat=true:=λa h=>by rw[h];exact Nat.beq_refl _
 have t1:(110:UInt8).toNat=110:=rfl;have t2:(116:UInt8).toNat=116:=rfl;have t3:(92:UInt8).toNat=92:=rfl;have t4:(39:UInt8).toNat=39:=rfl;unfold GQ;by_cases h1:d.toNat=110
 .rw[if_pos h1];refine⟨λb e=>⟨0,?_,by cases e;rfl⟩,λe=>by cases e⟩;simp[lF,t1,yb 110 h1.symm]
 rw[if_neg h1];by_cases h2:d.toNat=116
 .rw[if_pos h2];refine⟨λb e=>⟨1,?_,by cases e;rfl⟩,λe=>by cases e⟩;simp[lF,t1,t2,nb 110 (Ne.symm h1),yb 116 h2.symm]
 rw[if_neg h2];by_cases h3:d.toNat=92
 .rw[if_pos h3];refine⟨λb e=>⟨2,?_,by cases e;rfl⟩,λe=>by cases e⟩;simp[lF,t1,t2,t3,nb 110 (Ne.symm h1),nb 116 (Ne.symm h2),yb 92 h3.symm]
 rw[if_neg h3];by_cases h4:d.toNat=39
 .rw[if_pos h4];refine⟨λb e=>⟨3,?_,by cases e;rfl⟩,λe=>by cases e⟩;simp[lF,t1,t2,t3,t4,nb 110 (Ne.symm h1),nb 116 (Ne.symm h2),nb 92 (Ne.symm h3),yb 39 h4.symm]
 rw[if_neg h4];refine⟨λb e=>(by cases e),λ_=>?_⟩;simp[lF,t1,t2,t3,t4,nb 110 (Ne.symm h1),nb 116 (Ne.symm h2),nb 92 (Ne.symm h3),nb 39 (Ne.symm h4)];rfl
theorem Nk:lF 0 [110,116,92,39]=-1:=by decide
def hZ(k:Int)(t:List UInt8)(n:Int):List AV:=[.int .i64 k,.str t,.int .i64 n,.bool false,.int .i64 0]
def aiU(q:Option (List UInt8)×Nat)(q0:Nat)(s:List UInt8)(R:Option (Ex×List AV×af)):Prop:=
 ∃cH,(∃t,q.1=some t/\R=some (.ret,FM 119 [(2,.ptr 1 0),(3,.int .i64 0)],⟨2,[.row (hZ 2 t 0),.row [.str s,.int .i64 (q0+q.2:Nat)]],1,cH⟩))\/
   (q.1=none/\R=some (.ret,FM 119 [(2,.ptr 1 0),(3,.int .i64 2)],⟨2,[.row (hZ 0 [] 0),.row [.str s,.int .i64 (q0+q.2:Nat)]],1,cH⟩))\/
   (q.1=none/\R=some (.exit 0,FM 119 [(2,.ptr 1 0)],⟨2,[.row (hZ 0 [] 0),.row [.str s,.int .i64 (q0+q.2:Nat)]],1,cH⟩))
theorem om(n:Nat)(s:List UInt8)(hl:s.length<1000000000)(q0:Nat):∀(f:Nat) (aM:List UInt8) (j m md:Nat),aM≠[]->aM.length<=j->q0+j<=s.length->s.length-(q0+j)<f->f<=m->
 aiU (jl f (s.drop (q0+j)) aM j) q0 s (il 2 1 (bP (aC (aH (cm nv []) (n+1)) (n+1) fC) fa 2 m (WT (.ptr 0 0) (.ptr 1 0) (.vec 2 0 aM.length 1 aM.length)) ⟨3,[.row (db aM),.row (hZ 0 [] 0),.row [.str s,.int .i64 (q0+j:Nat)]],2,md⟩))
 |0,aM,j,m,md,eR,haj,hk,h,_=>by omega
 |f+1,aM,j,0,md,eR,haj,_,_,h=>by omega
 |f+1,aM,j,m+1,md,eR,haj,hk,hf0,hm=>by
   rw[ag];have hf:=gG aM;have hb:=sW aM;have dI:=lV aM;have h8:aM.length+1<=140737488355328:=by omega
   have h9:aM.length+1<9223372036854775808:=by omega
   have jZ:(db aM).take aM.length=db aM:=by rw[List.take_of_length_le];omega
   have ju:∀b:UInt8,AV.ah (db aM++[.int .u8 b.toNat])=0:=λb=>by rw[<-mu];exact gG _
   have Db:AV.ah (db aM++[.int .u8 39])=0:=ju 39;by_cases he:q0+j=s.length
   .have hd:s.drop (q0+j)=[]:=by rw[he];exact List.drop_length
    have h6:((q0:Int)+(j:Int)<(s.length:Int))=False:=eq_false (by omega);rw[hd,Kj];refine⟨md,.inr (.inr ⟨rfl,?_⟩)⟩;simp[nv,fC,fa,h6,hf]
   .obtain⟨c,h1,hd⟩:=nO (s:=s) (k:=q0+j) (by omega);have h6:((q0:Int)+(j:Int)<(s.length:Int))=True:=eq_true (by omega);have h3:IntKind.i64.wrap ((q0:Int)+(j:Int)+1)=(q0:Int)+(j:Int)+1:=wrap_i64 (by omega) (by omega);have AW:IntKind.i64.wrap ((q0:Int)+(j:Int)+1+1)=(q0:Int)+(j:Int)+1+1:=wrap_i64 (by omega) (by omega);have n0:(0<=(q0:Int)+(j:Int))=True:=eq_true (by omega);have n1:(0<=(q0:Int)+(j:Int)+1)=True:=eq_true (by omega);have n2:((q0:Int)+(j:Int)).toNat=q0+j:=by omega
    have n3:((q0:Int)+(j:Int)+1).toNat=q0+j+1:=by omega
    rw[hd]
    have tp:(s.drop (q0+j+1)=[]/\((q0:Int)+(j:Int)+1<(s.length:Int))=False)\/∃d,s[q0+j+1]? =some d/\s.drop (q0+j+1)=d::s.drop (q0+j+2)/\((q0:Int)+(j:Int)+1<(s.length:Int))=True:=by
     by_cases hx:q0+j+1<s.length
     .obtain⟨d,a1,a2⟩:=nO (s:=s) (k:=q0+j+1) hx;exact .inr ⟨d,a1,a2,eq_true (by omega)⟩
     .exact .inl ⟨List.drop_eq_nil_of_le (by omega),eq_false (by omega)⟩
    by_cases k1:c.toNat=39
    .have uV:((c.toNat:Int)=39)=True:=eq_true (by omega);rcases tp with⟨x1,x2⟩|⟨d,x0,x1,x2⟩
     .rw[x1,I4 k1];refine⟨0,.inl ⟨aM,rfl,?_⟩⟩;simp[nv,fC,fa,hZ,h1,h6,h3,AW,n0,n1,n2,n3,aK,hf,ju,Db,hb,dI,h8,h9,jZ,aG,uV,x2];omega
     .rw[x1];by_cases k2:d.toNat=39
      .have Dc:((d.toNat:Int)=39)=True:=eq_true (by omega);have x3:=(List.getElem?_eq_some_iff.1 x0).1;rw[Ql k1 k2];obtain rfl:c=39:=UInt8.toNat_inj.1 k1;have ih:=om n s hl q0 f (aM++[39]) (j+2) m 0 (by simp) (by simp;omega) (by omega) (by omega) (by omega);rw[show q0+(j+2)=q0+j+2 by omega] at ih;simp only[List.length_append,List.length_cons,List.length_nil,Nat.zero_add,Int.natCast_add,Int.natCast_one,nv,hZ,mu] at ih;simp[nv,fC,fa,hZ,h1,h6,h3,AW,n0,n1,n2,n3,aK,hf,ju,Db,hb,dI,h8,h9,jZ,aG,Dc,x0,x2];exact ih
      .have Dc:((d.toNat:Int)=39)=False:=eq_false (by omega);rw[J1 k1 k2];refine⟨0,.inl ⟨aM,rfl,?_⟩⟩;simp[nv,fC,fa,hZ,h1,h6,h3,AW,n0,n1,n2,n3,aK,hf,ju,Db,hb,dI,h8,h9,jZ,aG,uV,Dc,x0,x2];omega
    have uV:((c.toNat:Int)=39)=False:=eq_false (by omega);by_cases k2:c.toNat<32\/126<c.toNat
    .rw[JU k1 k2];have hx:∃e:Int,(if (q0:Int)+(j:Int)+1<(s.length:Int) then True else True):=⟨0,by split<;>trivial⟩
     by_cases k3:c.toNat<32
     .have mI:((c.toNat:Int)<32)=True:=eq_true (by omega);rcases tp with⟨x1,x2⟩|⟨d,x0,x1,x2⟩
      .refine⟨min md 1,.inr (.inl ⟨rfl,?_⟩)⟩;simp[nv,fC,fa,hZ,h1,h6,h3,AW,n0,n1,n2,n3,aK,hf,ju,Db,hb,dI,h8,h9,jZ,aG,uV,mI,x2]
      .refine⟨min md 1,.inr (.inl ⟨rfl,?_⟩)⟩;simp[nv,fC,fa,hZ,h1,h6,h3,AW,n0,n1,n2,n3,aK,hf,ju,Db,hb,dI,h8,h9,jZ,aG,uV,mI,x0,x2]
     .have mI:((c.toNat:Int)<32)=False:=eq_false (by omega);have nT:(126<(c.toNat:Int))=True:=eq_true (by omega);rcases tp with⟨x1,x2⟩|⟨d,x0,x1,x2⟩
      .refine⟨min md 1,.inr (.inl ⟨rfl,?_⟩)⟩;simp[nv,fC,fa,hZ,h1,h6,h3,AW,n0,n1,n2,n3,aK,hf,ju,Db,hb,dI,h8,h9,jZ,aG,uV,mI,nT,x2]
      .refine⟨min md 1,.inr (.inl ⟨rfl,?_⟩)⟩;simp[nv,fC,fa,hZ,h1,h6,h3,AW,n0,n1,n2,n3,aK,hf,ju,Db,hb,dI,h8,h9,jZ,aG,uV,mI,nT,x0,x2]
    have mI:((c.toNat:Int)<32)=False:=eq_false (by omega);have nT:(126<(c.toNat:Int))=False:=eq_false (by omega);by_cases k5:c.toNat=92
    .have QU:((c.toNat:Int)=92)=True:=eq_true (by omega);rcases tp with⟨x1,x2⟩|⟨d,x0,x1,x2⟩
     .rw[x1,Pe k5];have z:=fy [110,116,92,39] 0;rw[show (0:UInt8).toNat=0 from rfl,Nk] at z;simp only[show ((0:Nat):Int)=0 from rfl] at z;refine⟨min md 1,.inr (.inl ⟨rfl,?_⟩)⟩;simp[nv,fC,fa,hZ,h1,h6,h3,AW,n0,n1,n2,n3,aK,hf,ju,Db,hb,dI,h8,h9,jZ,aG,uV,mI,nT,QU,x2,z]
     .rw[x1];have z:=fy [110,116,92,39] d;obtain⟨z1,z2⟩:=SC d
      cases KG:GQ d with
      |none=>rw[P1 k5 KG];rw[z2 KG] at z;refine⟨min md 1,.inr (.inl ⟨rfl,?_⟩)⟩;simp[nv,fC,fa,hZ,h1,h6,h3,AW,n0,n1,n2,n3,aK,hf,ju,Db,hb,dI,h8,h9,jZ,aG,uV,mI,nT,QU,x0,x2,z]
      |some b=>rw[Kl k5 KG];obtain⟨i,y1,y2⟩:=z1 b KG;have x3:=(List.getElem?_eq_some_iff.1 x0).1;rw[y1] at z;have y3:((i:Int)<0)=False:=eq_false (by omega);have y4:(0<=(i:Int))=True:=eq_true (by omega);have ih:=om n s hl q0 f (aM++[b]) (j+2) m 0 (by simp) (by simp;omega) (by omega) (by omega) (by omega);rw[show q0+(j+2)=q0+j+2 by omega] at ih;simp only[List.length_append,List.length_cons,List.length_nil,Nat.zero_add,Int.natCast_add,Int.natCast_one,nv,hZ,mu] at ih;simp[nv,fC,fa,hZ,h1,h6,h3,AW,n0,n1,n2,n3,aK,hf,ju,Db,hb,dI,h8,h9,jZ,aG,uV,mI,nT,QU,x0,x2,z,y2,y3,y4];exact ih
    .have QU:((c.toNat:Int)=92)=False:=eq_false (by omega);rw[RP k1 k2 k5];rcases tp with⟨x1,x2⟩|⟨d,x0,x1,x2⟩
     .have ih:=om n s hl q0 f (aM++[c]) (j+1) m 0 (by simp) (by simp;omega) (by omega) (by omega) (by omega);rw[show q0+(j+1)=q0+j+1 by omega] at ih;simp only[List.length_append,List.length_cons,List.length_nil,Nat.zero_add,Int.natCast_add,Int.natCast_one,nv,hZ,mu] at ih;simp[nv,fC,fa,hZ,h1,h6,h3,AW,n0,n1,n2,n3,aK,hf,ju,Db,hb,dI,h8,h9,jZ,aG,uV,mI,nT,QU,x2];exact ih
     .have ih:=om n s hl q0 f (aM++[c]) (j+1) m 0 (by simp) (by simp;omega) (by omega) (by omega) (by omega);rw[show q0+(j+1)=q0+j+1 by omega] at ih;simp only[List.length_append,List.length_cons,List.length_nil,Nat.zero_add,Int.natCast_add,Int.natCast_one,nv,hZ,mu] at ih;simp[nv,fC,fa,hZ,h1,h6,h3,AW,n0,n1,n2,n3,aK,hf,ju,Db,hb,dI,h8,h9,jZ,aG,uV,mI,nT,QU,x0,x2];exact ih
theorem Vn(n:Nat)(s:List UInt8)(hl:s.length<1000000000)(q0:Nat):∀(f j m md:Nat),q0+j<=s.length->s.length-(q0+j)<f->f<=m->
 aiU (jl f (s.drop (q0+j)) [] j) q0 s (il 2 1 (bP (aC (aH (cm nv []) (n+1)) (n+1) fC) fa 2 m (WT (.ptr 0 0) (.ptr 1 0) .aF) ⟨2,[.row (hZ 0 [] 0),.row [.str s,.int .i64 (q0+j:Nat)]],2,md⟩))
 |0,j,m,md,hk,h,_=>by omega
 |f+1,j,0,md,_,_,h=>by omega
 |f+1,j,m+1,md,hk,hf0,hm=>by
   rw[ag];have VT:bytesOf []=some []:=rfl;by_cases he:q0+j=s.length
   .have hd:s.drop (q0+j)=[]:=by rw[he];exact List.drop_length
    have h6:((q0:Int)+(j:Int)<(s.length:Int))=False:=eq_false (by omega);rw[hd,Kj];refine⟨md,.inr (.inr ⟨rfl,?_⟩)⟩;simp[nv,fC,fa,h6]
   .obtain⟨c,h1,hd⟩:=nO (s:=s) (k:=q0+j) (by omega);have h6:((q0:Int)+(j:Int)<(s.length:Int))=True:=eq_true (by omega);have h3:IntKind.i64.wrap ((q0:Int)+(j:Int)+1)=(q0:Int)+(j:Int)+1:=wrap_i64 (by omega) (by omega);have AW:IntKind.i64.wrap ((q0:Int)+(j:Int)+1+1)=(q0:Int)+(j:Int)+1+1:=wrap_i64 (by omega) (by omega);have n0:(0<=(q0:Int)+(j:Int))=True:=eq_true (by omega);have n1:(0<=(q0:Int)+(j:Int)+1)=True:=eq_true (by omega);have n2:((q0:Int)+(j:Int)).toNat=q0+j:=by omega
    have n3:((q0:Int)+(j:Int)+1).toNat=q0+j+1:=by omega
    rw[hd]
    have tp:(s.drop (q0+j+1)=[]/\((q0:Int)+(j:Int)+1<(s.length:Int))=False)\/∃d,s[q0+j+1]? =some d/\s.drop (q0+j+1)=d::s.drop (q0+j+2)/\((q0:Int)+(j:Int)+1<(s.length:Int))=True:=by
     by_cases hx:q0+j+1<s.length
     .obtain⟨d,a1,a2⟩:=nO (s:=s) (k:=q0+j+1) hx;exact .inr ⟨d,a1,a2,eq_true (by omega)⟩
     .exact .inl ⟨List.drop_eq_nil_of_le (by omega),eq_false (by omega)⟩
    by_cases k1:c.toNat=39
    .have uV:((c.toNat:Int)=39)=True:=eq_true (by omega);rcases tp with⟨x1,x2⟩|⟨d,x0,x1,x2⟩
     .rw[x1,I4 k1];refine⟨0,.inl ⟨[],rfl,?_⟩⟩;simp[nv,fC,fa,hZ,h1,h6,h3,AW,n0,n1,n2,n3,aK,VT,aG,uV,x2];omega
     .rw[x1];by_cases k2:d.toNat=39
      .have Dc:((d.toNat:Int)=39)=True:=eq_true (by omega);have x3:=(List.getElem?_eq_some_iff.1 x0).1;rw[Ql k1 k2];obtain rfl:c=39:=UInt8.toNat_inj.1 k1;have ih:=om n s hl q0 f [39] (j+2) m 0 (by simp) (by simp) (by omega) (by omega) (by omega);rw[show q0+(j+2)=q0+j+2 by omega] at ih;simp only[List.length_cons,List.length_nil,Nat.zero_add,Int.natCast_add,Int.natCast_one,nv,hZ,db,List.map_cons,List.map_nil] at ih;simp[nv,fC,fa,hZ,h1,h6,h3,AW,n0,n1,n2,n3,aK,VT,aG,Dc,x0,x2];exact ih
      .have Dc:((d.toNat:Int)=39)=False:=eq_false (by omega);rw[J1 k1 k2];refine⟨0,.inl ⟨[],rfl,?_⟩⟩;simp[nv,fC,fa,hZ,h1,h6,h3,AW,n0,n1,n2,n3,aK,VT,aG,uV,Dc,x0,x2];omega
    have uV:((c.toNat:Int)=39)=False:=eq_false (by omega);by_cases k2:c.toNat<32\/126<c.toNat
    .rw[JU k1 k2];have hx:∃e:Int,(if (q0:Int)+(j:Int)+1<(s.length:Int) then True else True):=⟨0,by split<;>trivial⟩
     by_cases k3:c.toNat<32
     .have mI:((c.toNat:Int)<32)=True:=eq_true (by omega);rcases tp with⟨x1,x2⟩|⟨d,x0,x1,x2⟩
      .refine⟨min md 1,.inr (.inl ⟨rfl,?_⟩)⟩;simp[nv,fC,fa,hZ,h1,h6,h3,AW,n0,n1,n2,n3,aK,VT,aG,uV,mI,x2]
      .refine⟨min md 1,.inr (.inl ⟨rfl,?_⟩)⟩;simp[nv,fC,fa,hZ,h1,h6,h3,AW,n0,n1,n2,n3,aK,VT,aG,uV,mI,x0,x2]
     .have mI:((c.toNat:Int)<32)=False:=eq_false (by omega);have nT:(126<(c.toNat:Int))=True:=eq_true (by omega);rcases tp with⟨x1,x2⟩|⟨d,x0,x1,x2⟩
      .refine⟨min md 1,.inr (.inl ⟨rfl,?_⟩)⟩;simp[nv,fC,fa,hZ,h1,h6,h3,AW,n0,n1,n2,n3,aK,VT,aG,uV,mI,nT,x2]
      .refine⟨min md 1,.inr (.inl ⟨rfl,?_⟩)⟩;simp[nv,fC,fa,hZ,h1,h6,h3,AW,n0,n1,n2,n3,aK,VT,aG,uV,mI,nT,x0,x2]
    have mI:((c.toNat:Int)<32)=False:=eq_false (by omega);have nT:(126<(c.toNat:Int))=False:=eq_false (by omega);by_cases k5:c.toNat=92
    .have QU:((c.toNat:Int)=92)=True:=eq_true (by omega);rcases tp with⟨x1,x2⟩|⟨d,x0,x1,x2⟩
     .rw[x1,Pe k5];have z:=fy [110,116,92,39] 0;rw[show (0:UInt8).toNat=0 from rfl,Nk] at z;simp only[show ((0:Nat):Int)=0 from rfl] at z;refine⟨min md 1,.inr (.inl ⟨rfl,?_⟩)⟩;simp[nv,fC,fa,hZ,h1,h6,h3,AW,n0,n1,n2,n3,aK,VT,aG,uV,mI,nT,QU,x2,z]
     .rw[x1];have z:=fy [110,116,92,39] d;obtain⟨z1,z2⟩:=SC d
      cases KG:GQ d with
      |none=>rw[P1 k5 KG];rw[z2 KG] at z;refine⟨min md 1,.inr (.inl ⟨rfl,?_⟩)⟩;simp[nv,fC,fa,hZ,h1,h6,h3,AW,n0,n1,n2,n3,aK,VT,aG,uV,mI,nT,QU,x0,x2,z]
      |some b=>rw[Kl k5 KG];obtain⟨i,y1,y2⟩:=z1 b KG;have x3:=(List.getElem?_eq_some_iff.1 x0).1;rw[y1] at z;have y3:((i:Int)<0)=False:=eq_false (by omega);have y4:(0<=(i:Int))=True:=eq_true (by omega);have ih:=om n s hl q0 f [b] (j+2) m 0 (by simp) (by simp) (by omega) (by omega) (by omega);rw[show q0+(j+2)=q0+j+2 by omega] at ih;simp only[List.length_cons,List.length_nil,Nat.zero_add,Int.natCast_add,Int.natCast_one,nv,hZ,db,List.map_cons,List.map_nil] at ih;simp[nv,fC,fa,hZ,h1,h6,h3,AW,n0,n1,n2,n3,aK,VT,aG,uV,mI,nT,QU,x0,x2,z,y2,y3,y4];exact ih
    .have QU:((c.toNat:Int)=92)=False:=eq_false (by omega);rw[RP k1 k2 k5];rcases tp with⟨x1,x2⟩|⟨d,x0,x1,x2⟩
     .have ih:=om n s hl q0 f [c] (j+1) m 0 (by simp) (by simp) (by omega) (by omega) (by omega);rw[show q0+(j+1)=q0+j+1 by omega] at ih;simp only[List.length_cons,List.length_nil,Nat.zero_add,Int.natCast_add,Int.natCast_one,nv,hZ,db,List.map_cons,List.map_nil] at ih;simp[nv,fC,fa,hZ,h1,h6,h3,AW,n0,n1,n2,n3,aK,VT,aG,uV,mI,nT,QU,x2];exact ih
     .have ih:=om n s hl q0 f [c] (j+1) m 0 (by simp) (by simp) (by omega) (by omega) (by omega);rw[show q0+(j+1)=q0+j+1 by omega] at ih;simp only[List.length_cons,List.length_nil,Nat.zero_add,Int.natCast_add,Int.natCast_one,nv,hZ,db,List.map_cons,List.map_nil] at ih;simp[nv,fC,fa,hZ,h1,h6,h3,AW,n0,n1,n2,n3,aK,VT,aG,uV,mI,nT,QU,x0,x2];exact ih
theorem w9{X:World->Prop}{P:Program}{E:Env}(hE:cb P X E){n f:Nat}{ax cs iN:List AV}{v:AV}(he:(aH E n f (.ptr 0 0::ax) (D3 [.row cs])).map (λp=>(p.1,p.2.get 0))=some (v,some (.row iN)))
 (hv:v.aJ=0) (hr:AV.ah ax=0) (hc:AV.ah iN=0):cp P X f (.ptr 0 0::ax) [.row cs] v (some [.row iN]):=by
 obtain⟨⟨v1,h1⟩,e1,e2⟩:=Option.map_eq_some_iff.1 he;simp only[Prod.mk.injEq] at e2;obtain⟨rfl,e3⟩:=e2;exact At hE e1 e3 hv hr hc
def NR(q:Option (List UInt8)×Nat):AV:=match q.1 with|some t=>.tuple [.agg (hZ 2 t 0),.int .i64 0]|none=>.tuple [.agg (hZ 0 [] 0),.int .i64 2]
def Tz:cw:=⟨80,λ
 |[.ptr 0 0],[.row [.str s,.int .i64 i]]=>if s.length<1000000000/\0<=i/\i<s.length then
  some (NR (jl ((s.drop (i.toNat+1)).length+1) (s.drop (i.toNat+1)) [] 1),some [.row [.str s,.int .i64 (i.toNat+(jl ((s.drop (i.toNat+1)).length+1) (s.drop (i.toNat+1)) [] 1).2:Nat)]]) else none
 |_,_=>none⟩
theorem mX:Tz.f=80:=(rfl)
theorem aax(s:List UInt8)(k:Nat)(hl:s.length<1000000000)(hk:k<s.length):
 Tz.S [.ptr 0 0] [.row [.str s,.int .i64 k]]=some (NR (jl ((s.drop (k+1)).length+1) (s.drop (k+1)) [] 1),some [.row [.str s,.int .i64 (k+(jl ((s.drop (k+1)).length+1) (s.drop (k+1)) [] 1).2:Nat)]]):=by
 simp only[Tz];rw[if_pos ⟨hl,by omega,by omega⟩,Int.toNat_natCast]
theorem aaX:mP Tryz.prog Tz:=λaa os v r hv=>by
 unfold Tz at hv;dsimp only at hv;split at hv
 .rename_i s i;split at hv
  .rename_i hc;cases hv;obtain⟨k,rfl⟩:∃k:Nat,i=(k:Int):=⟨i.toNat,by omega⟩
   rw[Int.toNat_natCast,mX];have h3:IntKind.i64.wrap ((k:Int)+1)=(k:Int)+1:=wrap_i64 (by omega) (by omega);have lp:=Vn (s.length+4) s hc.1 k ((s.drop (k+1)).length+1) 1 (s.length+5) 0 (by omega) (by rw[List.length_drop];omega) (by rw[List.length_drop];omega);generalize jl ((s.drop (k+1)).length+1) (s.drop (k+1)) [] 1=q at *;refine w9 (n:=s.length+6) (wZ (ss:=nv) (ms:=[]) OH (by simp)) ?_ (by unfold NR;split<;>rfl) rfl rfl;rw[wV];obtain⟨cH,lp⟩:=lp;simp only[fa,nv,hZ,Int.natCast_add,Int.natCast_one] at lp;rcases lp with⟨t,e1,lp⟩|⟨e1,lp⟩|⟨e1,lp⟩
   .unfold NR;rw[e1];simp[nv,QJ,c80,fa,hZ,h3,lp,aK]
   .unfold NR;rw[e1];simp[nv,QJ,c80,fa,hZ,h3,lp,aK]
   .unfold NR;rw[e1];simp[nv,QJ,c80,fa,hZ,h3,lp,aK]
  .cases hv
 .cases hv
theorem je:vu.f=75:=(rfl)
theorem Te(c:UInt8):vu.S [.int .u8 c.toNat]=some (.bool (ll c)):=ru _ _ c
theorem iP:vm.f=77:=(rfl)
theorem UZ(c:UInt8):vm.S [.int .u8 c.toNat]=some (.bool (lB c)):=ru _ _ c
theorem XS(c:UInt8):ve.S [.int .u8 c.toNat]=some (.bool (dN c)):=ru _ _ c
def LR:List aW:=[vu,vm,ve,Ud,wE,j8,iB]
theorem aeD:∀s∈LR,dU Tryz.prog bV s:=by simp[LR,HQ.lift,Hn.lift,FJ.lift,Rh.lift,P4,GU.lift,nV.lift]
def L4:List cw:=[runM,Tz,DZ,IQ]
theorem adW:∀m∈L4,cB Tryz.prog bV m:=by simp[L4,Ru.lift,aaX.lift,Nf.lift,YR.lift]
theorem Ov{s:List UInt8}{k:Nat}(h:k<=s.length):sliceB s.length (some (.int .i64 k)) none=some (k,s.length):=by
 have a1:(0:Int)<=(k:Int)/\(k:Int)<=(s.length:Int):=by omega
 simp[sliceB,a1]
theorem Vi(c:UInt8):decide (0<=lF c.toNat rk)=nk c:=Ad _ _
theorem JA(c d a b:UInt8)(r:List UInt8):Lib.hasPrefix (c::d::r) [a,b]=(decide (c.toNat=a.toNat)&&decide (d.toNat=b.toNat)):=by
 have e:∀x y:UInt8,(x==y)=decide (y.toNat=x.toNat):=λx y=>by
  by_cases h:x=y
  .subst h;simp
  .have:¬y.toNat=x.toNat:=λe=>h (UInt8.toNat_inj.1 e.symm)
   rw[decide_eq_false this];simpa using h
 simp[Lib.hasPrefix,List.isPrefixOf,e]
theorem Sg(c a b:UInt8):Lib.hasPrefix [c] [a,b]=false:=by simp[Lib.hasPrefix,List.isPrefixOf]
def gz(t:Tok):AV:=.agg [.int .i64 t.aj,.str t.aI,.int .i64 t.bj,.bool t.js,.int .i64 t.bQ]
def Vo:cw:=⟨45,λ
 |[.ptr 0 0],[.row [.str s,.int .i64 i]]=>if s.length<1000000000/\0<=i/\i<s.length then
  some (.tuple [gz (cC (s.drop i.toNat)).1,.int .i64 (cC (s.drop i.toNat)).2.2],some [.row [.str s,.int .i64 (i.toNat+(cC (s.drop i.toNat)).2.1:Nat)]]) else none
 |_,_=>none⟩
theorem eP:Vo.f=45:=(rfl)
theorem Sb(s:List UInt8)(k:Nat)(hl:s.length<1000000000)(hk:k<s.length):
 Vo.S [.ptr 0 0] [.row [.str s,.int .i64 k]]=some (.tuple [gz (cC (s.drop k)).1,.int .i64 (cC (s.drop k)).2.2],some [.row [.str s,.int .i64 (k+(cC (s.drop k)).2.1:Nat)]]):=by
 simp only[Vo];rw[if_pos ⟨hl,by omega,by omega⟩,Int.toNat_natCast]
theorem Zh(s:List UInt8)(k:Nat)(hl:s.length<1000000000)(hk:k<s.length)(n:Nat):
 (aH (cm LR L4) (n+2) 45 [.ptr 0 0] (D3 [.row [.str s,.int .i64 k]])).map (λp=>(p.1,p.2.get 0))=
  some (.tuple [gz (cC (s.drop k)).1,.int .i64 (cC (s.drop k)).2.2],some (.row [.str s,.int .i64 (k+(cC (s.drop k)).2.1:Nat)])):=by
 obtain⟨c,h1,hd⟩:=nO (s:=s) (k:=k) hk;rw[wV];have q1:=Te c;have q2:=UZ c;have q3:=XS c;have q4:=RY c;have r1:=J6 76 ml (by simp[yh]) s k hl (by omega);have r2:=J6 78 dN (by simp[yh]) s k hl (by omega);have r3:=aax s k hl hk;have r4:=M5 s k hl hk;have r5:=WO s k hl (by omega);have h3:IntKind.i64.wrap ((k:Int)+1)=(k:Int)+1:=wrap_i64 (by omega) (by omega);have AW:IntKind.i64.wrap ((k:Int)+2)=(k:Int)+2:=wrap_i64 (by omega) (by omega);have h3c:IntKind.i64.wrap (k:Int)=(k:Int):=wrap_i64 (by omega) (by omega);have sf:=Ov (s:=s) (k:=k) (by omega);have tk:(s.take s.length).drop k=s.drop k:=by rw[List.take_length]
 have hb:=c.toNat_lt;have rn1:=qL dN (s.drop k);have F:vu.f=75/\vm.f=77/\ve.f=78/\Ud.f=82/\wE.f=79/\j8.f=84/\iB.f=65:=⟨rfl,rfl,rfl,rfl,rfl,rfl,rfl⟩
 rw[hd] at r1 r2 r4 r5 rn1|-;unfold cC;dsimp only
 cases k1:ll c with
 |true=>rw[k1] at q1;simp only[if_true];generalize runN ml (c::s.drop (k+1))=q at *;simp only[Int.natCast_add] at r1;simp[LR,L4,nL,Oh,h1,q1,r1,gz,je,iP,jU,ke,gJ,eQ,aK,jn,mX,gW,jR]
 |false=>
 rw[k1] at q1;simp only[Bool.false_eq_true,if_false]
 cases k2:lB c with
 |true=>rw[k2] at q2;simp only[if_true];generalize runN ml (c::s.drop (k+1))=q at *;simp only[Int.natCast_add] at r1;simp[LR,L4,nL,Oh,h1,q1,q2,r1,gz,je,iP,jU,ke,gJ,eQ,aK,jn,mX,gW,jR]
 |false=>
 rw[k2] at q2;simp only[Bool.false_eq_true,if_false]
 cases k3:dN c with
 |true=>rw[k3] at q3;simp only[if_true];have q5:=Pt ((c::s.drop (k+1)).take (runN dN (c::s.drop (k+1)))) (by rw[List.length_take];simp;omega);generalize (c::s.drop (k+1)).take (runN dN (c::s.drop (k+1)))=D at *;generalize runN dN (c::s.drop (k+1))=q at *;generalize gv D=P at *;obtain⟨v,e⟩:=P;dsimp only at q5|-;simp only[Int.natCast_add] at r2;simp[LR,L4,nL,Oh,h1,q1,q2,q3,q5,r2,gz,je,iP,jU,ke,gJ,eQ,aK,jn,mX,gW,jR]
 |false=>
 rw[k3] at q3;simp only[Bool.false_eq_true,if_false];by_cases k4:c.toNat=39
 .have nT:((c.toNat:Int)=39)=True:=eq_true (by omega);rw[if_pos k4];generalize jl ((s.drop (k+1)).length+1) (s.drop (k+1)) [] 1=Q at *;obtain⟨a,q⟩:=Q;simp only[Int.natCast_add] at r3
  cases a with
  |none=>simp only[NR,hZ] at r3;simp[LR,L4,nL,Oh,h1,q1,q2,q3,nT,r3,gz,AF,je,iP,jU,ke,gJ,eQ,aK,jn,mX,gW,jR]
  |some t=>simp only[NR,hZ] at r3;simp[LR,L4,nL,Oh,h1,q1,q2,q3,nT,r3,gz,AF,je,iP,jU,ke,gJ,eQ,aK,jn,mX,gW,jR]
 have nT:((c.toNat:Int)=39)=False:=eq_false (by omega);rw[if_neg k4]
 cases k5:iY (c::s.drop (k+1)) with
 |true=>rw[k5] at r4;simp only[if_true];simp[LR,L4,nL,Oh,h1,h3,q1,q2,q3,nT,r4,gz,je,iP,jU,ke,gJ,eQ,aK,jn,mX,gW,jR]
 |false=>
 rw[k5] at r4;simp only[Bool.false_eq_true,if_false]
 cases k6:tM c with
 |true=>rw[k6] at q4;simp only[if_true];generalize kA (c::s.drop (k+1))=q at *;simp only[Int.natCast_add] at r5;simp[LR,L4,nL,Oh,h1,q1,q2,q3,q4,nT,r4,r5,gz,je,iP,jU,ke,gJ,eQ,aK,jn,mX,gW,jR]
 |false=>
 rw[k6] at q4;simp only[Bool.false_eq_true,if_false];have nn:((c.toNat:Int)).toNat=c.toNat:=by omega
 have cc:UInt8.ofNat c.toNat=c:=by simp
 by_cases k7:c.toNat=59\/c.toNat=33
 .rw[if_pos k7];have acV:((c.toNat:Int)<128)=True:=eq_true (by omega);by_cases k8:c.toNat=59
  .have k8':((c.toNat:Int)=59)=True:=eq_true (by omega);simp[LR,L4,nL,Oh,h1,h3,q1,q2,q3,q4,nT,k8',r4,acV,nn,cc,gz,je,iP,jU,ke,gJ,eQ,aK,jn,mX,gW,jR]
  .have k8':((c.toNat:Int)=59)=False:=eq_false (by omega);have k9':((c.toNat:Int)=33)=True:=eq_true (by omega);simp[LR,L4,nL,Oh,h1,h3,q1,q2,q3,q4,nT,k8',k9',r4,acV,nn,cc,gz,je,iP,jU,ke,gJ,eQ,aK,jn,mX,gW,jR]
 rw[if_neg k7];have k8':((c.toNat:Int)=59)=False:=eq_false (by omega);have k9':((c.toNat:Int)=33)=False:=eq_false (by omega);have p1:j8.S [.str (s.drop k),.str [91,93]]=some (.bool (Lib.hasPrefix (c::s.drop (k+1)) [91,93])):=by rw[<-hd];exact xQ _ _
 have p2:j8.S [.str (s.drop k),.str [123,125]]=some (.bool (Lib.hasPrefix (c::s.drop (k+1)) [123,125])):=by rw[<-hd];exact xQ _ _
 have p3:=fy rk c;have p4:=Vi c;generalize lF c.toNat rk=x at *;simp only[rk] at p3
 have agZ:nk c=true->c.toNat<128:=λh=>by unfold nk at h;rw[List.any_eq_true] at h;obtain⟨d,hd1,hd2⟩:=h;have e:=of_decide_eq_true hd2;simp only[rk,List.mem_cons,List.not_mem_nil,or_false] at hd1;rcases hd1 with rfl|rfl|rfl|rfl|rfl|rfl|rfl|rfl<;>rw[<-e]<;>decide
 have fin:∀(R:Bool),R=nk c->Lib.hasPrefix (c::s.drop (k+1)) [91,93]=false->Lib.hasPrefix (c::s.drop (k+1)) [123,125]=false->
  (aH (cm LR L4) (n+2) 45 [.ptr 0 0] ⟨1,[.row [.str s,.int .i64 k]],1,1⟩).map (λp=>(p.1,p.2.get 0))=
   some (if R then .tuple [gz ⟨5,[c],0,false,0⟩,.int .i64 0] else .tuple [gz AF,.int .i64 2],some (.row [.str s,.int .i64 (k+(if R then 1 else 0):Nat)])):=λR hR w1 w2=>by
  rw[w1] at p1;rw[w2] at p2;rw[<-hR] at p4
  cases R with
  |true=>have acV:((c.toNat:Int)<128)=True:=eq_true (by have:=agZ hR.symm;omega);have p5:(0<=x)=True:=eq_true (of_decide_eq_true p4);simp[LR,L4,nL,Oh,h1,h3,q1,q2,q3,q4,nT,k8',k9',r4,acV,nn,cc,sf,tk,p1,p2,p3,p5,gz,je,iP,jU,ke,gJ,eQ,aK,jn,mX,gW,jR]
  |false=>have p5:(0<=x)=False:=eq_false (of_decide_eq_false p4);simp[LR,L4,nL,Oh,h1,h3,q1,q2,q3,q4,nT,k8',k9',r4,nn,cc,sf,tk,p1,p2,p3,p5,gz,AF,je,iP,jU,ke,gJ,eQ,aK,jn,mX,gW,jR]
 cases hr:s.drop (k+1) with
 |nil=>rw[hr] at fin;have:=fin (nk c) rfl (Sg _ _ _) (Sg _ _ _);rw[this];cases nk c<;>rfl
 |cons d r=>
   rw[hr] at fin;dsimp only;by_cases kk:(c.toNat=91/\d.toNat=93)\/(c.toNat=123/\d.toNat=125)
   .rw[if_pos kk]
    have hkl:k+2<=s.length:=by have:=congrArg List.length hr;rw[List.length_drop] at this;simp at this;omega
    obtain⟨s1,s2⟩:=A3 (s:=s) (k:=k) (q:=2) hkl;have s3:(s.drop k).take 2=[c,d]:=by rw[hd,hr];rfl
    rw[s3] at s2;simp only[Int.natCast_add,show ((2:Nat):Int)=2 from rfl] at s1;rw[hr,JA] at p1 p2;rw[show (91:UInt8).toNat=91 from rfl,show (93:UInt8).toNat=93 from rfl] at p1;rw[show (123:UInt8).toNat=123 from rfl,show (125:UInt8).toNat=125 from rfl] at p2;rcases kk with⟨a1,a2⟩|⟨a1,a2⟩
    .rw[decide_eq_true a1,decide_eq_true a2] at p1;simp[LR,L4,nL,Oh,h1,AW,h3c,q1,q2,q3,q4,nT,k8',k9',r4,nn,cc,sf,tk,p1,p2,s1,s2,gz,je,iP,jU,ke,gJ,eQ,aK,jn,mX,gW,jR]
    .rw[decide_eq_false (show ¬c.toNat=91 by omega)] at p1;rw[decide_eq_true a1,decide_eq_true a2] at p2;simp[LR,L4,nL,Oh,h1,AW,h3c,q1,q2,q3,q4,nT,k8',k9',r4,nn,cc,sf,tk,p1,p2,s1,s2,gz,je,iP,jU,ke,gJ,eQ,aK,jn,mX,gW,jR]
   .rw[if_neg kk]
    have:=fin (nk c) rfl (by
     rw[JA,show (91:UInt8).toNat=91 from rfl,show (93:UInt8).toNat=93 from rfl];by_cases a:c.toNat=91
     .rw[decide_eq_true a,decide_eq_false (λb=>kk (.inl ⟨a,b⟩))];rfl
     .rw[decide_eq_false a];rfl) (by
     rw[JA,show (123:UInt8).toNat=123 from rfl,show (125:UInt8).toNat=125 from rfl];by_cases a:c.toNat=123
     .rw[decide_eq_true a,decide_eq_false (λb=>kk (.inr ⟨a,b⟩))];rfl
     .rw[decide_eq_false a];rfl)
    rw[this];cases nk c<;>rfl
theorem abk:cB Tryz.prog bV Vo:=λaa os v r hv=>by
 unfold Vo at hv;dsimp only at hv;split at hv
 .rename_i s i;split at hv
  .rename_i hc;cases hv;obtain⟨k,rfl⟩:∃k:Nat,i=(k:Int):=⟨i.toNat,by omega⟩
   rw[Int.toNat_natCast,eP];exact w9 (n:=5) (ey aeD adW) (Zh s k hc.1 (by omega) 3) (by simp[AV.aJ,AV.ah,gz]) rfl rfl
  .cases hv
 .cases hv
def fO(l:List Tok):List AV:=l.flatMap Tok.cells
theorem AZ(l:List Tok):∀x∈l.map Tok.aL,C6 5 x:=by intro x hx;obtain⟨o,_,rfl⟩:=List.mem_map.1 hx;exact⟨rfl,rfl,(λh=>by cases h),λ_=>rfl,rfl⟩
theorem D8(l:List Tok):(l.map Tok.aL).flatMap AV.cells=fO l:=by
 induction l with
 |nil=>rfl
 |cons t r ih=>unfold fO at ih|-;rw[List.map_cons,List.flatMap_cons,List.flatMap_cons,ih];rfl
theorem xp(l:List Tok):(fO l).length=l.length*5:=by rw[<-D8,Ej (AZ l),List.length_map]
theorem yB(l:List Tok):AV.ah (fO l)=0:=by rw[<-D8];exact qM (Em (AZ l))
theorem FU(l:List Tok)(t:Tok):fO (l++[t])=fO l++t.cells:=by simp[fO]
theorem T6(l:List Tok):AV.ah (l.map Tok.aL)=0:=by
 induction l with
 |nil=>rfl
 |cons t r ih=>simp[AV.ah,ih,Tok.aL,Tok.cells,AV.aJ]
theorem ai0{h:af}{n0 d id:Nat}(x:Tok)(r:List Tok)(bX:n0<=id)(hg:h.get id=some (.row (fO (x::r)))):
 jL h n0 (d+2) (.vec id 0 (r.length+1) 5 (r.length+1))=some (.sl ((x::r).map Tok.aL),[id]):=
 wR bX hg (by omega) (AZ (x::r)) (by simp) (by rw[xp];simp) (by rw[D8,List.take_of_length_le];rw[xp];simp)
def vK(id:Nat):List Tok->AV
 |[]=>.aF
 |x::r=>.vec id 0 (r.length+1) 5 (r.length+1)
def hK(us:List Tok)(B:List aT):List aT:=match us with
 |[]=>B
 |x::r=>.row (fO (x::r))::B
theorem aiQ{id:Nat}{l:List Tok}(h:l≠[]):vK id l=.vec id 0 l.length 5 l.length:=by
 cases l with
 |nil=>exact absurd rfl h
 |cons x r=>rfl
theorem ah9{l:List Tok}{B:List aT}(h:l≠[]):hK l B=.row (fO l)::B:=by
 cases l with
 |nil=>exact absurd rfl h
 |cons x r=>rfl
def mS:List aW:=[]
def mW:List cw:=[Vo,Fh]
theorem aff:∀m∈mW,cB Tryz.prog bV m:=by simp[mW,abk,X3.lift]
def aaG(r:List Tok×Int×Int)(s:List UInt8)(R:Option (Ex×List AV×af)):Prop:=
 ∃cH,(r.2.2=0/\r.2.1=s.length/\R=some (.exit 0,FM 89 [(0,.str s),(6,vK 1 r.1)],⟨(hK r.1 [.row [.str s,.int .i64 s.length]]).length,hK r.1 [.row [.str s,.int .i64 s.length]],0,cH⟩))\/
   (r.2.2≠0/\r.1=[]/\∃x,R=some (.ret,FM 89 [(2,.aF),(3,.int .i64 r.2.1),(4,.int .i64 r.2.2)],⟨1,[.row [.str s,.int .i64 x]],0,cH⟩))
theorem L0(n:Nat)(s:List UInt8)(hl:s.length<=4096):∀(f:Nat) (aM:List Tok) (j m md:Nat),aM≠[]->aM.length<=1024->j<=s.length->s.length-j<f->f<=m->
 aaG (rE f s j aM) s (il 1 0 (bP (aC (aH (cm mS mW) (n+1)) (n+1) eM) dV 1 m (Fk (.str s) (.ptr 0 0) (.vec 1 0 aM.length 5 aM.length)) ⟨2,[.row (fO aM),.row [.str s,.int .i64 j]],1,md⟩))
 |0,aM,j,m,md,eR,hac,hk,h,_=>by omega
 |f+1,aM,j,0,md,eR,hac,_,_,h=>by omega
 |f+1,aM,j,m+1,md,eR,hac,hk,hf0,hm=>by
   rw[ag];have hf:=yB aM;have h8:(aM.length+1)*48<=140737488355328:=by omega
   have h9:aM.length+1<9223372036854775808:=by omega
   have jZ:(fO aM).take (aM.length*5)=fO aM:=by rw[List.take_of_length_le];rw[xp];exact Nat.le_refl _
   have qT:=xp aM;unfold rE;by_cases he:j=s.length
   .have h6:((j:Int)<(s.length:Int))=False:=eq_false (by omega);rw[if_pos (by omega)];refine⟨md,.inl ⟨rfl,rfl,?_⟩⟩;rw[aiQ eR,ah9 eR];simp[mS,mW,eM,dV,eP,dx,gz,hf,h8,h9,jZ,qT,aG,h6,he]
   .have Gj:j<s.length:=by omega
    have h6:((j:Int)<(s.length:Int))=True:=eq_true (by omega);rw[if_neg (by omega)];have q1:=Sb s j (by omega) Gj;obtain⟨b1,b2⟩:=j5 (s.drop j);rw[List.length_drop] at b1;generalize cC (s.drop j)=O at *;obtain⟨⟨kd,tx,nm,op,a0⟩,k,e⟩:=O;dsimp only at q1 b1 b2|-;simp only[Int.natCast_add,gz] at q1;by_cases e0:e=0
    .subst e0;rw[if_neg (by simp)];have hk1:=b2 rfl;by_cases ZS:((kd=1\/kd=2)/\64<tx.length)\/(aM:List Tok).length=1024
     .rw[if_pos ZS];refine⟨0,.inr ⟨by simp,rfl,(j+k:Nat),?_⟩⟩;by_cases k1:kd=1
      .by_cases k3:64<tx.length
       .have mI:((64:Int)<(tx.length:Int))=True:=eq_true (by omega);simp[mS,mW,eM,dV,eP,dx,gz,hf,h8,h9,jZ,qT,aG,h6,q1,k1,mI]
       .have mI:((64:Int)<(tx.length:Int))=False:=eq_false (by omega);have k4:(aM:List Tok).length=1024:=by omega
        have nT:((aM.length:Int)=1024)=True:=eq_true (by omega);simp[mS,mW,eM,dV,eP,dx,gz,hf,h8,h9,jZ,qT,aG,h6,q1,k1,mI,nT]
      .by_cases k2:kd=2
       .by_cases k3:64<tx.length
        .have mI:((64:Int)<(tx.length:Int))=True:=eq_true (by omega);simp[mS,mW,eM,dV,eP,dx,gz,hf,h8,h9,jZ,qT,aG,h6,q1,k2,mI]
        .have mI:((64:Int)<(tx.length:Int))=False:=eq_false (by omega);have k4:(aM:List Tok).length=1024:=by omega
         have nT:((aM.length:Int)=1024)=True:=eq_true (by omega);simp[mS,mW,eM,dV,eP,dx,gz,hf,h8,h9,jZ,qT,aG,h6,q1,k2,mI,nT]
       .have k4:(aM:List Tok).length=1024:=by omega
        have nT:((aM.length:Int)=1024)=True:=eq_true (by omega);simp[mS,mW,eM,dV,eP,dx,gz,hf,h8,h9,jZ,qT,aG,h6,q1,k1,k2,nT]
     .rw[if_neg ZS];have hsk:=nc (s.length+1) (s.drop (j+k));rw[List.length_drop] at hsk;have q2:=D6 s (j+k) (by omega) (by omega);simp only[Int.natCast_add] at q2;have n0:(0<=(j:Int)+(k:Int))=True:=eq_true (by omega);have n2:((j:Int)+(k:Int)).toNat=j+k:=by omega
      have ag1:(s[j+k]? =none/\((j:Int)+(k:Int)<(s.length:Int))=False)\/∃d,s[j+k]? =some d/\((j:Int)+(k:Int)<(s.length:Int))=True:=by
       by_cases hx:j+k<s.length
       .exact .inr ⟨s[j+k],List.getElem?_eq_getElem hx,eq_true (by omega)⟩
       .exact .inl ⟨List.getElem?_eq_none (by omega),eq_false (by omega)⟩
      have nT:((aM.length:Int)=1024)=False:=eq_false (by omega)
      have key:∀(b:Bool),decide ((s[j+k]?.map UInt8.toNat)=some 40)=b->(∀(R:Option (Ex×List AV×af)),R=il 1 0 (bP (aC (aH (cm mS mW) (n+1)) (n+1) eM) dV 1 m (Fk (.str s) (.ptr 0 0) (.vec 1 0 (aM++[(⟨kd,tx,nm,b,j⟩:Tok)]).length 5 (aM++[(⟨kd,tx,nm,b,j⟩:Tok)]).length)) ⟨2,[.row (fO (aM++[(⟨kd,tx,nm,b,j⟩:Tok)])),.row [.str s,.int .i64 (j+k+dW (s.length+1) (s.drop (j+k)):Nat)]],1,0⟩)->
       aaG (rE f s (j+k+dW (s.length+1) (s.drop (j+k))) (aM++[(⟨kd,tx,nm,decide ((s[j+k]?.map UInt8.toNat)=some 40),j⟩:Tok)])) s R):=λb hb R hR=>by
       rw[hR,hb];exact L0 n s hl f (aM++[⟨kd,tx,nm,b,j⟩]) (j+k+dW (s.length+1) (s.drop (j+k))) m 0 (by simp) (by simp<;>omega) (by omega) (by omega) (by omega)
      generalize dW (s.length+1) (s.drop (j+k))=sk at *;have G4:∀b:Bool,fO (aM++[(⟨kd,tx,nm,b,j⟩:Tok)])=fO aM++[.int .i64 kd,.str tx,.int .i64 nm,.bool b,.int .i64 j]:=λb=>FU _ _
      have ju:∀b:Bool,AV.ah (fO aM++[.int .i64 kd,.str tx,.int .i64 nm,.bool b,.int .i64 j])=0:=λb=>by rw[<-G4];exact yB _
      rcases ag1 with⟨x1,x2⟩|⟨d,x1,x2⟩
      .by_cases k1:kd=1
       .obtain rfl:=k1;have mI:((64:Int)<(tx.length:Int))=False:=eq_false (by omega);refine key false (by simp[x1]) _ ?_;simp only[G4,List.length_append,List.length_cons,List.length_nil,Nat.zero_add,Int.natCast_add,mS,mW];simp[mS,mW,eM,dV,eP,dx,gz,hf,h8,h9,jZ,qT,aG,h6,q1,q2,n0,n2,nT,ju,x2,mI]
       .by_cases k2:kd=2
        .obtain rfl:=k2;have mI:((64:Int)<(tx.length:Int))=False:=eq_false (by omega);refine key false (by simp[x1]) _ ?_;simp only[G4,List.length_append,List.length_cons,List.length_nil,Nat.zero_add,Int.natCast_add,mS,mW];simp[mS,mW,eM,dV,eP,dx,gz,hf,h8,h9,jZ,qT,aG,h6,q1,q2,n0,n2,nT,ju,x2,mI]
        .refine key false (by simp[x1]) _ ?_;simp only[G4,List.length_append,List.length_cons,List.length_nil,Nat.zero_add,Int.natCast_add,mS,mW];simp[mS,mW,eM,dV,eP,dx,gz,hf,h8,h9,jZ,qT,aG,h6,q1,q2,n0,n2,nT,ju,x2,k1,k2]
      .by_cases VN:d.toNat=40
       .have yP:((d.toNat:Int)=40)=True:=eq_true (by omega);by_cases k1:kd=1
        .obtain rfl:=k1;have mI:((64:Int)<(tx.length:Int))=False:=eq_false (by omega);refine key true (by simp[x1,VN]) _ ?_;simp only[G4,List.length_append,List.length_cons,List.length_nil,Nat.zero_add,Int.natCast_add,mS,mW];simp[mS,mW,eM,dV,eP,dx,gz,hf,h8,h9,jZ,qT,aG,h6,q1,q2,n0,n2,nT,ju,x1,x2,yP,mI]
        .by_cases k2:kd=2
         .obtain rfl:=k2;have mI:((64:Int)<(tx.length:Int))=False:=eq_false (by omega);refine key true (by simp[x1,VN]) _ ?_;simp only[G4,List.length_append,List.length_cons,List.length_nil,Nat.zero_add,Int.natCast_add,mS,mW];simp[mS,mW,eM,dV,eP,dx,gz,hf,h8,h9,jZ,qT,aG,h6,q1,q2,n0,n2,nT,ju,x1,x2,yP,mI]
         .refine key true (by simp[x1,VN]) _ ?_;simp only[G4,List.length_append,List.length_cons,List.length_nil,Nat.zero_add,Int.natCast_add,mS,mW];simp[mS,mW,eM,dV,eP,dx,gz,hf,h8,h9,jZ,qT,aG,h6,q1,q2,n0,n2,nT,ju,x1,x2,yP,k1,k2]
       .have yP:((d.toNat:Int)=40)=False:=eq_false (by omega);by_cases k1:kd=1
        .obtain rfl:=k1;have mI:((64:Int)<(tx.length:Int))=False:=eq_false (by omega);refine key false (by simp[x1,VN]) _ ?_;simp only[G4,List.length_append,List.length_cons,List.length_nil,Nat.zero_add,Int.natCast_add,mS,mW];simp[mS,mW,eM,dV,eP,dx,gz,hf,h8,h9,jZ,qT,aG,h6,q1,q2,n0,n2,nT,ju,x1,x2,yP,mI]
        .by_cases k2:kd=2
         .obtain rfl:=k2;have mI:((64:Int)<(tx.length:Int))=False:=eq_false (by omega);refine key false (by simp[x1,VN]) _ ?_;simp only[G4,List.length_append,List.length_cons,List.length_nil,Nat.zero_add,Int.natCast_add,mS,mW];simp[mS,mW,eM,dV,eP,dx,gz,hf,h8,h9,jZ,qT,aG,h6,q1,q2,n0,n2,nT,ju,x1,x2,yP,mI]
         .refine key false (by simp[x1,VN]) _ ?_;simp only[G4,List.length_append,List.length_cons,List.length_nil,Nat.zero_add,Int.natCast_add,mS,mW];simp[mS,mW,eM,dV,eP,dx,gz,hf,h8,h9,jZ,qT,aG,h6,q1,q2,n0,n2,nT,ju,x1,x2,yP,k1,k2]
    .rw[if_pos e0];refine⟨0,.inr ⟨e0,rfl,(j+k:Nat),?_⟩⟩;simp[mS,mW,eM,dV,eP,dx,gz,hf,h8,h9,jZ,qT,aG,h6,q1,e0]
theorem U4(n:Nat)(s:List UInt8)(hl:s.length<=4096):∀(f j m md:Nat),j<=s.length->s.length-j<f->f<=m->
 aaG (rE f s j []) s (il 1 0 (bP (aC (aH (cm mS mW) (n+1)) (n+1) eM) dV 1 m (Fk (.str s) (.ptr 0 0) .aF) ⟨1,[.row [.str s,.int .i64 j]],1,md⟩))
 |0,j,m,md,hk,h,_=>by omega
 |f+1,j,0,md,_,_,h=>by omega
 |f+1,j,m+1,md,hk,hf0,hm=>by
   rw[ag];unfold rE;by_cases he:j=s.length
   .have h6:((j:Int)<(s.length:Int))=False:=eq_false (by omega);rw[if_pos (by omega)];refine⟨md,.inl ⟨rfl,rfl,?_⟩⟩;unfold vK hK;simp[mS,mW,eM,dV,eP,dx,gz,aG,h6,he]
   .have Gj:j<s.length:=by omega
    have h6:((j:Int)<(s.length:Int))=True:=eq_true (by omega);rw[if_neg (by omega)];have q1:=Sb s j (by omega) Gj;obtain⟨b1,b2⟩:=j5 (s.drop j);rw[List.length_drop] at b1;generalize cC (s.drop j)=O at *;obtain⟨⟨kd,tx,nm,op,a0⟩,k,e⟩:=O;dsimp only at q1 b1 b2|-;simp only[Int.natCast_add,gz] at q1;by_cases e0:e=0
    .subst e0;rw[if_neg (by simp)];have hk1:=b2 rfl;by_cases ZS:((kd=1\/kd=2)/\64<tx.length)\/([]:List Tok).length=1024
     .rw[if_pos ZS];refine⟨0,.inr ⟨by simp,rfl,(j+k:Nat),?_⟩⟩;by_cases k1:kd=1
      .by_cases k3:64<tx.length
       .have mI:((64:Int)<(tx.length:Int))=True:=eq_true (by omega);simp[mS,mW,eM,dV,eP,dx,gz,aG,h6,q1,k1,mI]
       .have mI:((64:Int)<(tx.length:Int))=False:=eq_false (by omega);have k4:([]:List Tok).length=1024:=by omega
        exact absurd k4 (by simp)
      .by_cases k2:kd=2
       .by_cases k3:64<tx.length
        .have mI:((64:Int)<(tx.length:Int))=True:=eq_true (by omega);simp[mS,mW,eM,dV,eP,dx,gz,aG,h6,q1,k2,mI]
        .have mI:((64:Int)<(tx.length:Int))=False:=eq_false (by omega);have k4:([]:List Tok).length=1024:=by omega
         exact absurd k4 (by simp)
       .have k4:([]:List Tok).length=1024:=by omega
        exact absurd k4 (by simp)
     .rw[if_neg ZS];have hsk:=nc (s.length+1) (s.drop (j+k));rw[List.length_drop] at hsk;have q2:=D6 s (j+k) (by omega) (by omega);simp only[Int.natCast_add] at q2;have n0:(0<=(j:Int)+(k:Int))=True:=eq_true (by omega);have n2:((j:Int)+(k:Int)).toNat=j+k:=by omega
      have ag1:(s[j+k]? =none/\((j:Int)+(k:Int)<(s.length:Int))=False)\/∃d,s[j+k]? =some d/\((j:Int)+(k:Int)<(s.length:Int))=True:=by
       by_cases hx:j+k<s.length
       .exact .inr ⟨s[j+k],List.getElem?_eq_getElem hx,eq_true (by omega)⟩
       .exact .inl ⟨List.getElem?_eq_none (by omega),eq_false (by omega)⟩
      have nT:((0:Int)=1024)=False:=by simp
      have key:∀(b:Bool),decide ((s[j+k]?.map UInt8.toNat)=some 40)=b->(∀(R:Option (Ex×List AV×af)),R=il 1 0 (bP (aC (aH (cm mS mW) (n+1)) (n+1) eM) dV 1 m (Fk (.str s) (.ptr 0 0) (.vec 1 0 ([]++[(⟨kd,tx,nm,b,j⟩:Tok)]).length 5 ([]++[(⟨kd,tx,nm,b,j⟩:Tok)]).length)) ⟨2,[.row (fO ([]++[(⟨kd,tx,nm,b,j⟩:Tok)])),.row [.str s,.int .i64 (j+k+dW (s.length+1) (s.drop (j+k)):Nat)]],1,0⟩)->
       aaG (rE f s (j+k+dW (s.length+1) (s.drop (j+k))) ([]++[(⟨kd,tx,nm,decide ((s[j+k]?.map UInt8.toNat)=some 40),j⟩:Tok)])) s R):=λb hb R hR=>by
       rw[hR,hb];exact L0 n s hl f ([]++[⟨kd,tx,nm,b,j⟩]) (j+k+dW (s.length+1) (s.drop (j+k))) m 0 (by simp) (by simp<;>omega) (by omega) (by omega) (by omega)
      generalize dW (s.length+1) (s.drop (j+k))=sk at *;have G4:∀b:Bool,fO ([]++[(⟨kd,tx,nm,b,j⟩:Tok)])=fO []++[.int .i64 kd,.str tx,.int .i64 nm,.bool b,.int .i64 j]:=λb=>FU _ _
      have ju:∀b:Bool,AV.ah (fO []++[.int .i64 kd,.str tx,.int .i64 nm,.bool b,.int .i64 j])=0:=λb=>by rw[<-G4];exact yB _
      rcases ag1 with⟨x1,x2⟩|⟨d,x1,x2⟩
      .by_cases k1:kd=1
       .obtain rfl:=k1;have mI:((64:Int)<(tx.length:Int))=False:=eq_false (by omega);refine key false (by simp[x1]) _ ?_;simp only[G4,List.length_append,List.length_cons,List.length_nil,Nat.zero_add,Int.natCast_add,fO,List.flatMap_nil,List.flatMap_cons,List.append_nil,Tok.cells,List.nil_append,mS,mW];simp[mS,mW,eM,dV,eP,dx,gz,aG,h6,q1,q2,n0,n2,nT,x2,mI]
       .by_cases k2:kd=2
        .obtain rfl:=k2;have mI:((64:Int)<(tx.length:Int))=False:=eq_false (by omega);refine key false (by simp[x1]) _ ?_;simp only[G4,List.length_append,List.length_cons,List.length_nil,Nat.zero_add,Int.natCast_add,fO,List.flatMap_nil,List.flatMap_cons,List.append_nil,Tok.cells,List.nil_append,mS,mW];simp[mS,mW,eM,dV,eP,dx,gz,aG,h6,q1,q2,n0,n2,nT,x2,mI]
        .refine key false (by simp[x1]) _ ?_;simp only[G4,List.length_append,List.length_cons,List.length_nil,Nat.zero_add,Int.natCast_add,fO,List.flatMap_nil,List.flatMap_cons,List.append_nil,Tok.cells,List.nil_append,mS,mW];simp[mS,mW,eM,dV,eP,dx,gz,aG,h6,q1,q2,n0,n2,nT,x2,k1,k2]
      .by_cases VN:d.toNat=40
       .have yP:((d.toNat:Int)=40)=True:=eq_true (by omega);by_cases k1:kd=1
        .obtain rfl:=k1;have mI:((64:Int)<(tx.length:Int))=False:=eq_false (by omega);refine key true (by simp[x1,VN]) _ ?_;simp only[G4,List.length_append,List.length_cons,List.length_nil,Nat.zero_add,Int.natCast_add,fO,List.flatMap_nil,List.flatMap_cons,List.append_nil,Tok.cells,List.nil_append,mS,mW];simp[mS,mW,eM,dV,eP,dx,gz,aG,h6,q1,q2,n0,n2,nT,x1,x2,yP,mI]
        .by_cases k2:kd=2
         .obtain rfl:=k2;have mI:((64:Int)<(tx.length:Int))=False:=eq_false (by omega);refine key true (by simp[x1,VN]) _ ?_;simp only[G4,List.length_append,List.length_cons,List.length_nil,Nat.zero_add,Int.natCast_add,fO,List.flatMap_nil,List.flatMap_cons,List.append_nil,Tok.cells,List.nil_append,mS,mW];simp[mS,mW,eM,dV,eP,dx,gz,aG,h6,q1,q2,n0,n2,nT,x1,x2,yP,mI]
         .refine key true (by simp[x1,VN]) _ ?_;simp only[G4,List.length_append,List.length_cons,List.length_nil,Nat.zero_add,Int.natCast_add,fO,List.flatMap_nil,List.flatMap_cons,List.append_nil,Tok.cells,List.nil_append,mS,mW];simp[mS,mW,eM,dV,eP,dx,gz,aG,h6,q1,q2,n0,n2,nT,x1,x2,yP,k1,k2]
       .have yP:((d.toNat:Int)=40)=False:=eq_false (by omega);by_cases k1:kd=1
        .obtain rfl:=k1;have mI:((64:Int)<(tx.length:Int))=False:=eq_false (by omega);refine key false (by simp[x1,VN]) _ ?_;simp only[G4,List.length_append,List.length_cons,List.length_nil,Nat.zero_add,Int.natCast_add,fO,List.flatMap_nil,List.flatMap_cons,List.append_nil,Tok.cells,List.nil_append,mS,mW];simp[mS,mW,eM,dV,eP,dx,gz,aG,h6,q1,q2,n0,n2,nT,x1,x2,yP,mI]
        .by_cases k2:kd=2
         .obtain rfl:=k2;have mI:((64:Int)<(tx.length:Int))=False:=eq_false (by omega);refine key false (by simp[x1,VN]) _ ?_;simp only[G4,List.length_append,List.length_cons,List.length_nil,Nat.zero_add,Int.natCast_add,fO,List.flatMap_nil,List.flatMap_cons,List.append_nil,Tok.cells,List.nil_append,mS,mW];simp[mS,mW,eM,dV,eP,dx,gz,aG,h6,q1,q2,n0,n2,nT,x1,x2,yP,mI]
         .refine key false (by simp[x1,VN]) _ ?_;simp only[G4,List.length_append,List.length_cons,List.length_nil,Nat.zero_add,Int.natCast_add,fO,List.flatMap_nil,List.flatMap_cons,List.append_nil,Tok.cells,List.nil_append,mS,mW];simp[mS,mW,eM,dV,eP,dx,gz,aG,h6,q1,q2,n0,n2,nT,x1,x2,yP,k1,k2]
    .rw[if_pos e0];refine⟨0,.inr ⟨e0,rfl,(j+k:Nat),?_⟩⟩;simp[mS,mW,eM,dV,eP,dx,gz,aG,h6,q1,e0]
def rS(l:List Tok):AV:=match l with
 |[]=>.aF
 |_=>.sl (l.map Tok.aL)
def Ba(r:List Tok×Int×Int):AV:=.tuple [rS r.1,.int .i64 r.2.1,.int .i64 r.2.2]
theorem O1(l:List Tok):(rS l).aJ=0:=by
 cases l with
 |nil=>rfl
 |cons x r=>rfl
theorem WN:∀(f:Nat) (s:List UInt8) (j:Nat) (aM:List Tok),(rE f s j aM).2.2≠0->(rE f s j aM).1=[]
 |0,s,j,aM,_=>rfl
 |f+1,s,j,aM,h=>by
   unfold rE at h|-;split
   .rename_i h1;rw[if_pos h1] at h;exact absurd rfl h
   .rename_i h1;rw[if_neg h1] at h;split
    .rfl
    .rename_i h2;rw[if_neg h2] at h;split
     .rfl
     .rename_i h3;rw[if_neg h3] at h;exact WN f s _ _ h
theorem abI(s:List UInt8):∃h',aH (cm mS mW) (s.length+4) 15 [.str s] h0=some (Ba (fw s),h')/\(Ba (fw s)).aJ=0:=by
 have hrefs:∀r:List Tok×Int×Int,(Ba r).aJ=0:=λr=>by simp[Ba,AV.aJ,AV.ah,O1]
 refine Exists.elim ?_ λh' hh=>⟨h',hh,hrefs _⟩
 unfold fw;by_cases hl:4096<s.length
 .have h1:((4096:Int)<(s.length:Int))=True:=eq_true (by omega);rw[if_pos hl];exact⟨_,by simp[mS,mW,Jh,c15,h1,Ba,rS,eP,dx];rfl⟩
 have h1:((4096:Int)<(s.length:Int))=False:=eq_false (by omega);rw[if_neg hl];have q2:=D6 s 0 (by omega) (by omega);have hsk:=nc (s.length+1) s;simp only[List.drop_zero,Nat.zero_add] at q2;have q2':Fh.S [.ptr 0 0] [.row [.str s,.int .i64 0]]=some (.tuple [],some [.row [.str s,.int .i64 (dW (s.length+1) s:Nat)]]):=q2;have lp:=U4 (s.length+2) s (by omega) (s.length+1) (dW (s.length+1) s) (s.length+3) 0 hsk (by omega) (by omega);generalize rE (s.length+1) s (dW (s.length+1) s) []=R at *;obtain⟨l,bQ,e⟩:=R;simp only[mS,mW,dV,Fk] at lp;obtain⟨md,⟨e1,e2,e3⟩|⟨e1,e2,x,e3⟩⟩:=lp
 .dsimp only at e1 e2 e3;subst e1 e2
  cases l with
  |nil=>simp only[vK,hK] at e3;exact⟨_,by simp[mS,mW,Jh,c15,dV,h1,Ba,rS,q2',eP,dx,e3];with_reducible rfl⟩
  |cons t r=>
    simp only[vK,hK] at e3;have fk:∀d,jL ⟨2,[.row (fO (t::r)),.row [.str s,.int .i64 s.length]],0,md⟩ 0 (d+2) (.vec 1 0 (r.length+1) 5 (r.length+1))=some (.sl ((t::r).map Tok.aL),[1]):=λd=>ai0 t r (Nat.zero_le 1) rfl
    have rf:=T6 (t::r);rw[List.map_cons,AV.ah] at rf;exact⟨_,by simp[mS,mW,Jh,c15,dV,h1,Ba,rS,q2',eP,dx,e3,fk,rf,-kh];with_reducible rfl⟩
 .dsimp only at e1 e2 e3;subst e2;exact⟨_,by simp[mS,mW,Jh,c15,dV,h1,Ba,rS,q2',eP,dx,e3];with_reducible rfl⟩
noncomputable def LV:aW:=⟨15,λ
 |[.str s]=>some (Ba (fw s))
 |_=>none⟩
theorem lX:LV.f=15:=(rfl)
theorem Jm(s:List UInt8):LV.S [.str s]=some (Ba (fw s)):=(rfl)
theorem I7:dU Tryz.prog bV LV:=λaa v hv=>by
 unfold LV at hv|-;dsimp only at hv|-;split at hv
 .rename_i s;cases hv;obtain⟨h',e,hr⟩:=abI s;exact bL (ey (ss:=mS) (by simp[mS]) aff) e hr (by simp[AV.aJ,AV.ah])
 .cases hv
def ja(s:List UInt8):Bool:=match fw s with
 |([t],_,e)=>decide (e=0)&&decide (t.aj=1)&&decide (t.aI=s)
 |_=>false
def vd:aW:=⟨64,λ
 |[.str s]=>some (.bool (ja s))
 |_=>none⟩
theorem eU:vd.f=64:=(rfl)
theorem IU(s:List UInt8):vd.S [.str s]=some (.bool (ja s)):=(rfl)
theorem IN:dU Tryz.prog bV vd:=λaa v hv=>by
 unfold vd at hv|-;dsimp only at hv|-;split at hv
 .rename_i s;cases hv;refine bL (n:=5) (h':=h0) (jF (ss:=[LV]) (by simp[I7])) ?_ (by simp[AV.aJ]) (by simp[AV.aJ,AV.ah]);have q:=Jm s;have hn:=WN (s.length+1) s (dW (s.length+1) s) []
  have hn':(fw s).2.2≠0->(fw s).1=[]:=by
   unfold fw;split
   .exact λ_=>rfl
   .exact hn
  unfold ja;generalize fw s=R at *;obtain⟨l,a,e⟩:=R;dsimp only at hn';unfold Ba rS at q;by_cases he:e=0
  .subst he
   cases l with
   |nil=>simp[HB,c64,lX,q]
   |cons t r=>
     cases r with
     |nil=>
       obtain⟨kd,tx,nm,op,bQ⟩:=t;simp only[List.map_cons,List.map_nil,Tok.aL,Tok.cells] at q;by_cases k1:kd=1
       .subst k1;by_cases k2:tx=s
        .subst k2;simp[HB,c64,lX,q]
        .have k3:(tx==s)=false:=by simpa using k2
         simp[HB,c64,lX,q,k2,k3]
       .simp[HB,c64,lX,q,k1]
     |cons t2 r=>simp only[List.map_cons] at q;have k1:((r.length:Int)+1+1=1)=False:=eq_false (by omega);simp[HB,c64,lX,q,k1]
  .obtain rfl:l=[]:=hn' he;simp[HB,c64,lX,q,he]
 .cases hv
def yj(d:UInt8):Option UInt8:=if d.toNat=10 then some 110 else if d.toNat=9 then some 116 else if d.toNat=92 then some 92 else if d.toNat=39 then some 39 else none
theorem My(d:UInt8):(∀b,yj d=some b->∃i:Nat,lF d.toNat [10,9,92,39]=(i:Int)/\([110,116,92,39]:List UInt8)[i]? =some b)/\(yj d=none->lF d.toNat [10,9,92,39]=-1):=by
 have nb:∀a:Nat,a≠d.toNat->Nat.beq a d.toNat=false:=λa h=>by
  cases hb:Nat.beq a d.toNat with
  |false=>rfl
  |true=>exact absurd (Nat.eq_of_beq_eq_true hb) h
 have yb:∀a:Nat,a=d.toNat->Nat.beq a d.toNat=true:=λa h=>by rw[h];exact Nat.beq_refl _
 have t1:(10:UInt8).toNat=10:=rfl;have t2:(9:UInt8).toNat=9:=rfl;have t3:(92:UInt8).toNat=92:=rfl;have t4:(39:UInt8).toNat=39:=rfl;unfold yj;by_cases h1:d.toNat=10
 .rw[if_pos h1];refine⟨λb e=>⟨0,?_,by cases e;rfl⟩,λe=>by cases e⟩;simp[lF,t1,yb 10 h1.symm]
 rw[if_neg h1];by_cases h2:d.toNat=9
 .rw[if_pos h2];refine⟨λb e=>⟨1,?_,by cases e;rfl⟩,λe=>by cases e⟩;simp[lF,t1,t2,nb 10 (Ne.symm h1),yb 9 h2.symm]
 rw[if_neg h2];by_cases h3:d.toNat=92
 .rw[if_pos h3];refine⟨λb e=>⟨2,?_,by cases e;rfl⟩,λe=>by cases e⟩;simp[lF,t1,t2,t3,nb 10 (Ne.symm h1),nb 9 (Ne.symm h2),yb 92 h3.symm]
 rw[if_neg h3];by_cases h4:d.toNat=39
 .rw[if_pos h4];refine⟨λb e=>⟨3,?_,by cases e;rfl⟩,λe=>by cases e⟩;simp[lF,t1,t2,t3,t4,nb 10 (Ne.symm h1),nb 9 (Ne.symm h2),nb 92 (Ne.symm h3),yb 39 h4.symm]
 rw[if_neg h4];refine⟨λb e=>(by cases e),λ_=>?_⟩;simp[lF,t1,t2,t3,t4,nb 10 (Ne.symm h1),nb 9 (Ne.symm h2),nb 92 (Ne.symm h3),nb 39 (Ne.symm h4)];rfl
def uN:List UInt8->List UInt8->Option (List UInt8)
 |[],aM=>some aM
 |c::r,aM=>match yj c with
   |some d=>uN r (aM++[92,d])
   |none=>if c.toNat<32\/126<c.toNat then none else uN r (aM++[c])
def da(s:List UInt8):List UInt8:=if ja s then s else if 64<s.length then [] else match uN s [39] with
 |some t=>t++[39]
 |none=>[]
theorem Je{c d:UInt8}{r aM:List UInt8}(h:yj c=some d):uN (c::r) aM=uN r (aM++[92,d]):=by
 conv=>lhs;unfold uN
 rw[h]
theorem Ox{c:UInt8}{r aM:List UInt8}(h:yj c=none)(h2:c.toNat<32\/126<c.toNat):uN (c::r) aM=none:=by unfold uN;rw[h];dsimp only;rw[if_pos h2]
theorem Jy{c:UInt8}{r aM:List UInt8}(h:yj c=none)(h2:¬(c.toNat<32\/126<c.toNat)):uN (c::r) aM=uN r (aM++[c]):=by
 conv=>lhs;unfold uN
 rw[h];dsimp only;rw[if_neg h2]
def E0:List aW:=[vd,iB]
theorem agq:∀s∈E0,dU Tryz.prog bV s:=by simp[E0,IN,nV.lift]
def adw(q:Option (List UInt8))(R:Option (Ex×List AV×af)):Prop:=
 ∃cH,(∃t,q=some t/\t≠[]/\t.length<=1000/\R=some (.exit 0,FM 47 [(3,.vec 1 0 t.length 1 t.length)],⟨2,[.row (db t),.dead],0,cH⟩))\/
   (q=none/\∃nx os wl md,os.length<=nx/\R=some (.ret,FM 47 [(2,.str [])],⟨nx,os,wl,md⟩))
theorem zE(n:Nat)(s:List UInt8)(hl:s.length<=64):∀(post pre aM:List UInt8) (m md:Nat),s=pre++post->aM≠[]->aM.length<=2*pre.length+1->post.length<m->
 adw (uN post aM) (il 1 0 (bP (aC (aH (cD E0) (n+1)) (n+1) nE) lx 1 m (PZ (.vec 1 0 aM.length 1 aM.length) (.sl (db s)) (.int .i64 s.length) (.int .i64 pre.length)) ⟨2,[.row (db aM),.dead],1,md⟩))
 |_,_,_,0,_,_,_,_,h=>by omega
 |[],pre,aM,m+1,md,hs,eR,hac,hm=>by rw[ag];have hf:=gG aM;have hb:=sW aM;have dI:=lV aM;rw[List.append_nil] at hs;subst hs;refine⟨md,.inl ⟨aM,rfl,eR,by omega,?_⟩⟩;simp[E0,nE,lx,hf]
 |c::r,pre,aM,m+1,md,hs,eR,hac,hm=>by
   rw[ag];have AL:pre.length+r.length+1=s.length:=by rw[hs];simp;omega
   have hf:=gG aM;have hb:=sW aM;have dI:=lV aM;have h8:aM.length+1<=140737488355328:=by omega
   have h9:aM.length+1<9223372036854775808:=by omega
   have h8b:aM.length+2<=140737488355328:=by omega
   have h9b:aM.length+2<9223372036854775808:=by omega
   have jZ:(db aM).take aM.length=db aM:=by rw[List.take_of_length_le];omega
   have h7:(aM.length+2<=aM.length)=False:=eq_false (by omega);have h6:((pre.length:Int)<(s.length:Int))=True:=eq_true (by omega);have hc:s[pre.length]? =some c:=by rw[hs];simp
   have hcV:(db s)[pre.length]? =some (.int .u8 c.toNat):=by unfold db;rw[List.getElem?_map,hc];rfl
   have h3:IntKind.i64.wrap ((pre.length:Int)+1)=(pre.length:Int)+1:=wrap_i64 (by omega) (by omega);have oG:=lV s;have q:=fy [10,9,92,39] c;obtain⟨x1,x2⟩:=My c
   cases he:yj c with
   |some d=>
     rw[Je he];obtain⟨i,y1,y2⟩:=x1 d he;rw[y1] at q;have y3:(0<=(i:Int))=True:=eq_true (by omega);have ih:=zE n s hl r (pre++[c]) (aM++[92,d]) m (min md 1) (by rw[hs];simp) (by simp) (by simp;omega) (by simp at hm;omega);have hv:db (aM++[92,d])=db aM++[.int .u8 92,.int .u8 d.toNat]:=by simp[db]
     have ju:AV.ah (db aM++[.int .u8 92,.int .u8 d.toNat])=0:=by rw[<-hv];exact gG _
     simp only[List.length_append,List.length_cons,List.length_nil,Nat.zero_add,Int.natCast_add,Int.natCast_one,E0,hv,Nat.reduceAdd] at ih;simp[E0,nE,lx,eU,aK,hf,hb,dI,h8,h8b,h9,h9b,jZ,aG,h6,h7,hcV,oG,h3,q,y2,y3,ju];exact ih
   |none=>
     rw[x2 he] at q;by_cases k:c.toNat<32\/126<c.toNat
     .rw[Ox he k];refine⟨0,.inr ⟨rfl,?_⟩⟩;by_cases k1:c.toNat<32
      .have uV:((c.toNat:Int)<32)=True:=eq_true (by omega);refine⟨_,_,_,_,?_,by simp[E0,nE,lx,eU,aK,hf,hb,dI,h8,h8b,h9,h9b,jZ,aG,h6,h7,hcV,oG,h3,q,uV];exact⟨rfl,rfl,rfl,rfl⟩⟩;simp
      .have uV:((c.toNat:Int)<32)=False:=eq_false (by omega);have Dc:(126<(c.toNat:Int))=True:=eq_true (by omega);refine⟨_,_,_,_,?_,by simp[E0,nE,lx,eU,aK,hf,hb,dI,h8,h8b,h9,h9b,jZ,aG,h6,h7,hcV,oG,h3,q,uV,Dc];exact⟨rfl,rfl,rfl,rfl⟩⟩;simp
     .rw[Jy he k];have uV:((c.toNat:Int)<32)=False:=eq_false (by omega);have Dc:(126<(c.toNat:Int))=False:=eq_false (by omega);have ih:=zE n s hl r (pre++[c]) (aM++[c]) m (min md 1) (by rw[hs];simp) (by simp) (by simp;omega) (by simp at hm;omega);have hv:db (aM++[c])=db aM++[.int .u8 c.toNat]:=by simp[db]
      have ju:AV.ah (db aM++[.int .u8 c.toNat])=0:=by rw[<-hv];exact gG _
      simp only[List.length_append,List.length_cons,List.length_nil,Nat.zero_add,Int.natCast_add,Int.natCast_one,E0,hv,Nat.reduceAdd] at ih;simp[E0,nE,lx,eU,aK,hf,hb,dI,h8,h8b,h9,h9b,jZ,aG,h6,h7,hcV,oG,h3,q,uV,Dc,ju];exact ih
theorem US(n:Nat)(s:List UInt8)(hl:s.length<=64):∀(c:UInt8) (r:List UInt8) (m md:Nat),s=c::r->r.length+1<m->
 adw (uN (c::r) [39]) (il 1 0 (bP (aC (aH (cD E0) (n+1)) (n+1) nE) lx 1 m (PZ (.vec 0 0 1 1 1) (.sl (db s)) (.int .i64 s.length) (.int .i64 0)) ⟨1,[.row [.int .u8 39]],1,md⟩))
 |c,r,0,md,hs,hm=>by omega
 |c,r,m+1,md,hs,hm=>by
   rw[ag];have AL:r.length+1=s.length:=by rw[hs];simp
   have hf:AV.ah [AV.int .u8 39]=0:=rfl;have hb:True:=trivial;have dI:True:=trivial;have h8:True:=trivial;have h9:True:=trivial;have h8b:True:=trivial;have h9b:True:=trivial;have jZ:True:=trivial;have h6:(0<s.length)=True:=eq_true (by omega);have h7:True:=trivial;have hcV:True:=trivial;have eV:db s=.int .u8 c.toNat::db r:=by rw[hs];rfl
   rw[eV];have h3:IntKind.i64.wrap 1=1:=rfl;have oG:(db r).length+1=s.length:=by rw[lV];omega
   have q:=fy [10,9,92,39] c;obtain⟨x1,x2⟩:=My c
   cases he:yj c with
   |some d=>
     rw[Je he];obtain⟨i,y1,y2⟩:=x1 d he;rw[y1] at q;have y3:(0<=(i:Int))=True:=eq_true (by omega);have ih:=zE n s hl r ([]++[c]) ([39]++[92,d]) m 0 (by rw[hs];rfl) (by simp) (by simp) (by omega);have hv:db ([39]++[92,d])=[.int .u8 39,.int .u8 92,.int .u8 d.toNat]:=by simp[db]
     have ju:AV.ah ([.int .u8 39,.int .u8 92,.int .u8 d.toNat])=0:=by rw[<-hv];exact gG _
     rw[eV] at ih;simp only[List.length_append,List.length_cons,List.length_nil,Nat.zero_add,Int.natCast_add,Int.natCast_one,E0,hv,Nat.reduceAdd] at ih;simp[E0,nE,lx,eU,aK,hf,hb,dI,h8,h8b,h9,h9b,jZ,aG,h6,h7,hcV,oG,h3,q,y2,y3,ju];exact ih
   |none=>
     rw[x2 he] at q;by_cases k:c.toNat<32\/126<c.toNat
     .rw[Ox he k];refine⟨0,.inr ⟨rfl,?_⟩⟩;by_cases k1:c.toNat<32
      .have uV:((c.toNat:Int)<32)=True:=eq_true (by omega);refine⟨_,_,_,_,?_,by simp[E0,nE,lx,eU,aK,hf,hb,dI,h8,h8b,h9,h9b,jZ,aG,h6,h7,hcV,oG,h3,q,uV];exact⟨rfl,rfl,rfl,rfl⟩⟩;simp
      .have uV:((c.toNat:Int)<32)=False:=eq_false (by omega);have Dc:(126<(c.toNat:Int))=True:=eq_true (by omega);refine⟨_,_,_,_,?_,by simp[E0,nE,lx,eU,aK,hf,hb,dI,h8,h8b,h9,h9b,jZ,aG,h6,h7,hcV,oG,h3,q,uV,Dc];exact⟨rfl,rfl,rfl,rfl⟩⟩;simp
     .rw[Jy he k];have uV:((c.toNat:Int)<32)=False:=eq_false (by omega);have Dc:(126<(c.toNat:Int))=False:=eq_false (by omega);have ih:=zE n s hl r ([]++[c]) ([39]++[c]) m 0 (by rw[hs];rfl) (by simp) (by simp) (by omega);have hv:db ([39]++[c])=[.int .u8 39,.int .u8 c.toNat]:=by simp[db]
      have ju:AV.ah ([.int .u8 39,.int .u8 c.toNat])=0:=by rw[<-hv];exact gG _
      rw[eV] at ih;simp only[List.length_append,List.length_cons,List.length_nil,Nat.zero_add,Int.natCast_add,Int.natCast_one,E0,hv,Nat.reduceAdd] at ih;simp[E0,nE,lx,eU,aK,hf,hb,dI,h8,h8b,h9,h9b,jZ,aG,h6,h7,hcV,oG,h3,q,uV,Dc,ju];exact ih
noncomputable def oU:aW:=⟨31,λ
 |[.str s]=>some (.str (da s))
 |_=>none⟩
theorem dM:oU.f=31:=(rfl)
theorem wJ(s:List UInt8):oU.S [.str s]=some (.str (da s)):=(rfl)
theorem A8:dU Tryz.prog bV oU:=λaa v hv=>by
 unfold oU at hv|-;dsimp only at hv|-;split at hv
 .rename_i s;cases hv;refine bL (n:=102) (h':=h0) (jF agq) ?_ (by simp[AV.aJ]) (by simp[AV.aJ,AV.ah]);have q:=IU s;unfold da
  cases hp:ja s with
  |true=>rw[hp] at q;simp[E0,Lg,c31,eU,aK,q]
  |false=>
    rw[hp] at q;simp only[Bool.false_eq_true,if_false];by_cases hl:64<s.length
    .have wj:((64:Int)<(s.length:Int))=True:=eq_true (by omega);rw[if_pos hl];simp[E0,Lg,c31,eU,aK,q,wj]
    .have wj:((64:Int)<(s.length:Int))=False:=eq_false (by omega);rw[if_neg hl];have e1:(s.map λb=>AV.int .u8 b.toNat)=db s:=rfl;have oG:=lV s
     cases s with
     |nil=>simp[E0,Lg,c31,lx,nE,eU,aK,q,ag,uN,aG,bytesOf]
     |cons c r=>
     have lp:=US 100 (c::r) (by omega) c r 101 0 rfl (by simp at hl;omega);simp only[E0,PZ,lx] at lp;obtain⟨md,⟨t,e3,eR,htl,e4⟩|⟨e3,nx,os,wl,md,fW,e4⟩⟩:=lp
     .rw[e3];have hf:=gG t;have hb:=sW (t++[39]);rw[mu,show (((39:UInt8).toNat:Nat):Int)=39 from rfl] at hb;have dI:=lV t;have h8:t.length+1<=140737488355328:=by omega
      have h9:t.length+1<9223372036854775808:=by omega
      have jZ:(db t).take t.length=db t:=by rw[List.take_of_length_le];omega
      have qT:(db t++[AV.int .u8 39]).take (t.length+1)=db t++[.int .u8 39]:=by rw[List.take_of_length_le];simp[dI]
      generalize c::r=s at *;simp[E0,Lg,c31,lx,eU,aK,q,wj,e1,oG,e4,qT,hf,hb,dI,h8,h9,jZ,aG]
     .rw[e3];generalize c::r=s at *;simp[E0,Lg,c31,lx,eU,aK,q,wj,e1,oG,e4,fW]
 .cases hv
def JI(s:List UInt8)(b:Bool):List UInt8:=if b then [40]++s++[41] else s
def qm(t:Tm):Bool:=decide (-9223372036854775808<=t.bj)&&decide (t.bj<9223372036854775808)
def xB(t:Tm):Prop:=dp t=true/\t.eO<1000000000/\t.gu qm=true
def rP(t:Tm):Tm:=t.aa.getD 0 (.nl 0 0 [])
def H5(t:Tm):Tm:=t.aa.getD 1 (.nl 0 0 [])
theorem oy{us:List Tm}{y:Tm}(h:y∈us):y.size<=Tm.br us:=by
 induction us with
 |nil=>simp at h
 |cons t r ih=>
   simp only[Tm.br];rcases List.mem_cons.1 h with rfl|h
   .omega
   .have:=ih h;omega
theorem U3{us:List Tm}{y:Tm}(h:y∈us):y.eZ<=Tm.iX us:=by
 induction us with
 |nil=>simp at h
 |cons t r ih=>
   simp only[Tm.iX];rcases List.mem_cons.1 h with rfl|h
   .omega
   .have:=ih h;omega
theorem Bw{p:Tm->Bool}:∀{us:List Tm},Tm.ft p us=true->∀y∈us,y.gu p=true
 |[],_,y,h=>by simp at h
 |t::r,h,y,hy=>by
   simp only[Tm.ft,Bool.and_eq_true] at h;rcases List.mem_cons.1 hy with rfl|hy
   .exact h.1
   .exact Bw h.2 y hy
theorem iu{t y:Tm}(h:xB t)(hy:y∈t.aa):xB y:=by obtain⟨h1,h2,h3⟩:=h;simp only[dp,Bool.and_eq_true,decide_eq_true_eq] at h1;have e1:=bJ t;have e2:=pS t;have e3:=py t;have f1:=oy hy;have f2:=U3 hy;have f3:=zG _ _ hy;rw[gq,Bool.and_eq_true] at h3;have g:=h1.2;rw[gq,Bool.and_eq_true] at g;refine⟨?_,by omega,Bw h3.2 y hy⟩;simp only[dp,Bool.and_eq_true,decide_eq_true_eq];exact⟨⟨by omega,by omega⟩,Bw g.2 y hy⟩
theorem pQ{t:Tm}(h:1<=t.aa.length):rP t∈t.aa:=by unfold rP;rw[List.getD_eq_getElem?_getD,List.getElem?_eq_getElem (by omega)];exact List.getElem_mem _
theorem QK{t:Tm}(h:2<=t.aa.length):H5 t∈t.aa:=by unfold H5;rw[List.getD_eq_getElem?_getD,List.getElem?_eq_getElem (by omega)];exact List.getElem_mem _
theorem px:∀(k:Nat) (t:Tm),t.size<=k->xB t->(∀y∈(a8 t).1,xB y/\y.size<t.size)/\xB (a8 t).2/\(hO t=true->(a8 t).2.size<t.size)
 |0,t,hk,_=>by have:=bJ t;omega
 |k+1,t,hk,h=>by
   cases hd:hO t with
   |false=>rw[pn hd];exact⟨λy hy=>by simp at hy,h,λe=>by cases e⟩
   |true=>
     obtain⟨x,r,e1,e2⟩:=kf hd;have hs:=bJ t;rw[e1] at hs;simp only[Tm.br] at hs;have hx:=iu h (y:=x) (by rw[e1];simp);have hr:=iu h (y:=r) (by rw[e1];simp);obtain⟨i1,i2,i3⟩:=px k r (by omega) hr;rw[e2];refine⟨λy hy=>?_,i2,λ_=>?_⟩
     .rcases List.mem_cons.1 hy with rfl|hy
      .exact⟨hx,by omega⟩
      .exact⟨(i1 y hy).1,by have:=(i1 y hy).2;omega⟩
     .dsimp only
      cases VI:hO r with
      |true=>have:=i3 VI;omega
      |false=>rw[pn VI];dsimp only;omega
theorem qy:∀(k:Nat) (t:Tm),t.size<=k->Tm.br (a8 t).1+(a8 t).2.size<=t.size/\(hO t=true->Tm.br (a8 t).1+(a8 t).2.size+1<=t.size)
 |0,t,hk=>by have:=bJ t;omega
 |k+1,t,hk=>by
   cases hd:hO t with
   |false=>rw[pn hd];exact⟨by simp[Tm.br],λe=>by cases e⟩
   |true=>obtain⟨x,r,e1,e2⟩:=kf hd;have hs:=bJ t;rw[e1] at hs;simp only[Tm.br] at hs;have:=(qy k r (by omega)).1;rw[e2];simp only[Tm.br];exact⟨by omega,λ_=>by omega⟩
def fc(T:List a7)(b:Bool)(t:Tm):a7×Bool:=if !b||!decide (t.aa.length=2)||decide (t.az=[46]) then (fL,false) else aS T t.az false
def jh(T:List a7)(b:Bool)(t:Tm):a7×Bool:=if !b||!decide (t.aa.length=1)||(decide (t.az=[45])&&decide ((rP t).aj=1))||!ja t.az then (fL,false) else aS T t.az true
def EO(T:List a7)(b:Bool)(s:List UInt8)(n:Int)(bs:Bool):List UInt8:=JI (da s) ((b&&((aS T s false).2||(aS T s true).2))&&(bs||decide (n<max (aS T s false).1.l (aS T s true).1.l)))
def u0(s:List UInt8):List UInt8:=if s=[44] then [44] else [32]++da s++[32]
def isLeft(o:a7):Bool:=decide (o.k=[121,102,120])
def oW(T:List a7)(b:Bool)(o:a7)(t:Tm):Int:=if isLeft o&&!((fc T b (rP t)).2&&isLeft (fc T b (rP t)).1) then (aB o).1-1 else (aB o).1
def u4(t:Tm):Bool:=!decide (t.aj<2)&&decide (t.az=[91,93])&&decide (t.aa.length=0)
def wT(T:List a7)(b:Bool)(vr:Int->List UInt8):Nat->Tm->Int->Bool->List UInt8
 |0,_,_,_=>[]
 |N+1,t,n,bs=>
   if t.aj=0 then vr t.bj
   else if t.aj=1 then JI (cn t.bj) (bs&&decide (t.bj<0))
   else if t.aa.length=0 then EO T b t.az n bs
   else if (b&&decide (t.az=[46]))&&decide (t.aa.length=2) then
    [91]++Lib.join ((a8 t).1.map λx=>wT T b vr N x 999 false) [44]++(if u4 (a8 t).2 then [] else [124]++wT T b vr N (a8 t).2 999 false)++[93]
   else if (b&&decide (t.az=[123,125]))&&decide (t.aa.length=1) then [123]++wT T b vr N (rP t) 1200 false++[125]
   else if (fc T b t).2 then
    JI (wT T b vr N (rP t) (oW T b (fc T b t).1 t) true++u0 t.az++wT T b vr N (H5 t) (aB (fc T b t).1).2 true) (decide (n<(fc T b t).1.l))
   else if (jh T b t).2 then
    JI (da t.az++[32]++wT T b vr N (rP t) (aB (jh T b t).1).2 true) (decide (n<(jh T b t).1.l))
   else da t.az++[40]++Lib.join (t.aa.map λx=>wT T b vr N x 999 false) [44]++[41]
theorem DE(s:List UInt8)(b:Bool):(JI s b).length<=s.length+2:=by unfold JI;split<;>simp
theorem FA:∀(r aM t:List UInt8),uN r aM=some t->t.length<=aM.length+2*r.length
 |[],aM,t,h=>by cases h;omega
 |c::r,aM,t,h=>by
   unfold uN at h;split at h
   .have:=FA r _ t h;simp at this|-;omega
   .split at h
    .cases h
    .have:=FA r _ t h;simp at this|-;omega
theorem pF{s:List UInt8}(h:s.length<=64):(da s).length<=130:=by
 unfold da;split
 .omega
 .split
  .simp
  .split
   .rename_i t ht;have:=FA _ _ _ ht;simp at this|-;omega
   .simp
theorem rY(p:List UInt8):∀l:List (List UInt8),(Lib.join l p).length<=(l.map λs=>s.length+p.length).sum
 |[]=>by simp[Lib.join]
 |[s]=>by simp[Lib.join]
 |s::r::q=>by
   have:=rY p (r::q);have e:Lib.join (s::r::q) p=s++p++Lib.join (r::q) p:=by simp[Lib.join,List.intercalate,List.intersperse]
   rw[e];simp only[List.length_append,List.map_cons,List.sum_cons] at this|-;omega
theorem xi(n:Int)(h:-9223372036854775808<=n/\n<9223372036854775808):(cn n).length<=20:=by rw[sj n h.1 h.2];exact (acd n h.1 h.2).2
theorem FQ{t:Tm}(h:xB t):t.az.length<=64:=by
 have h1:=h.1;simp only[dp,Bool.and_eq_true,decide_eq_true_eq] at h1;have g:=h1.2;rw[gq,Bool.and_eq_true] at g;have o:=g.1;unfold eT at o;split at o
 .simp only[Bool.and_eq_true,decide_eq_true_eq] at o;rw[o.1.2];simp
 .split at o
  .simp only[Bool.and_eq_true,decide_eq_true_eq] at o;rw[o.1];simp
  .split at o
   .simp only[Bool.and_eq_true,decide_eq_true_eq,iR] at o;exact o.1.2.2
   .cases o
theorem vJ{t:Tm}(h:xB t):t.aj=0\/t.aj=1\/t.aj=2:=by
 have h1:=h.1;simp only[dp,Bool.and_eq_true,decide_eq_true_eq] at h1;have g:=h1.2;rw[gq,Bool.and_eq_true] at g;have o:=g.1;unfold eT at o;split at o
 .rename_i e;exact .inl e
 .split at o
  .rename_i e;exact .inr (.inl e)
  .split at o
   .rename_i e;exact .inr (.inr e)
   .cases o
theorem I6{t:Tm}(h:xB t):-9223372036854775808<=t.bj/\t.bj<9223372036854775808:=by have:=h.2.2;rw[gq,Bool.and_eq_true] at this;simp only[qm,Bool.and_eq_true,decide_eq_true_eq] at this;exact this.1
theorem H6{s:List UInt8}(h:s.length<=64):(u0 s).length<=132:=by have:=pF h;unfold u0;split<;>simp<;>omega
theorem Br{f:Tm->Nat}:∀(us:List Tm),(∀y∈us,f y+10<=150*y.size)->(us.map λy=>f y+1).sum<=150*Tm.br us
 |[],_=>by simp
 |t::r,h=>by have h1:=h t (by simp);have h2:=Br r (λy hy=>h y (List.mem_cons_of_mem _ hy));simp only[List.map_cons,List.sum_cons,Tm.br];omega
theorem vh(T:List a7)(b:Bool)(vr:Int->List UInt8)(hv:∀n,(vr n).length<=21):∀(N:Nat) (t:Tm) (n:Int) (bs:Bool),xB t->(wT T b vr N t n bs).length+10<=150*t.size
 |0,t,n,bs,_=>by have:=bJ t;simp[wT];omega
 |N+1,t,n,bs,h=>by
   have hs:=bJ t;have qU:=FQ h;have hq:=pF qU;unfold wT;split
   .have:=hv t.bj;omega
   .rename_i nk0;split
    .have h1:=xi t.bj (I6 h);have h2:=DE (cn t.bj) (bs&&decide (t.bj<0));omega
    .rename_i nk1;split
     .have:=DE (da t.az) ((b&&((aS T t.az false).2||(aS T t.az true).2))&&(bs||decide (n<max (aS T t.az false).1.l (aS T t.az true).1.l)));unfold EO;omega
     .split
      .rename_i hc;simp only[Bool.and_eq_true,decide_eq_true_eq] at hc
       have AR:hO t=true:=by
        have hk:t.aj=2:=by
         rcases vJ h with k|k|k
         .exact absurd k nk0
         .exact absurd k nk1
         .exact k
        simp[hO,hk,hc.1.2,hc.2]
       obtain⟨i1,i2,i3⟩:=px t.size t (Nat.le_refl _) h;have jj:=(qy t.size t (Nat.le_refl _)).2 AR;have j:=qy t.size t (Nat.le_refl _);have k1:=rY [44] ((a8 t).1.map λx=>wT T b vr N x 999 false);have k2:=Br (f:=λx=>(wT T b vr N x 999 false).length) (a8 t).1 (λy hy=>vh T b vr hv N y 999 false (i1 y hy).1);have k3:=vh T b vr hv N (a8 t).2 999 false i2;rw[List.map_map] at k1;simp only[List.length_cons,List.length_nil,Nat.zero_add] at k1;have k4:(Lib.join ((a8 t).1.map λx=>wT T b vr N x 999 false) [44]).length<=150*Tm.br (a8 t).1:=Nat.le_trans k1 k2
       have k5:(if u4 (a8 t).2 then ([]:List UInt8) else [124]++wT T b vr N (a8 t).2 999 false).length<=(wT T b vr N (a8 t).2 999 false).length+1:=by split<;>simp
       simp only[List.length_append,List.length_cons,List.length_nil];omega
      .split
       .rename_i hc;simp only[Bool.and_eq_true,decide_eq_true_eq] at hc;have k:=vh T b vr hv N (rP t) 1200 false (iu h (pQ (by omega)));have k2:=oy (pQ (t:=t) (by omega));simp only[List.length_append,List.length_cons,List.length_nil];omega
       .split
        .rename_i hi
         have hl:t.aa.length=2:=by
          unfold fc at hi;split at hi
          .cases hi
          .rename_i hc;simp at hc;exact hc.1.2
         have k0:=vh T b vr hv N (rP t) (oW T b (fc T b t).1 t) true (iu h (pQ (by omega)));have k1:=vh T b vr hv N (H5 t) (aB (fc T b t).1).2 true (iu h (QK (by omega)))
         have k2:(rP t).size+(H5 t).size<=Tm.br t.aa:=by
          obtain⟨x,y,e⟩:∃x y,t.aa=[x,y]:=by
           match ha:t.aa with
           |[x,y]=>exact⟨x,y,rfl⟩
           |[]=>rw[ha] at hl;simp at hl
           |[x]=>rw[ha] at hl;simp at hl
           |x::y::z::r=>rw[ha] at hl;simp at hl
          unfold rP H5;rw[e];simp[Tm.br]
         have k3:=H6 qU;refine Nat.le_trans (Nat.add_le_add_right (DE _ _) 10) ?_;simp only[List.length_append];omega
        .split
         .rename_i hi
          have hl:t.aa.length=1:=by
           unfold jh at hi;split at hi
           .cases hi
           .rename_i hc;simp at hc;exact hc.1.1.2
          have k:=vh T b vr hv N (rP t) (aB (jh T b t).1).2 true (iu h (pQ (by omega)));have k2:=oy (pQ (t:=t) (by omega));refine Nat.le_trans (Nat.add_le_add_right (DE _ _) 10) ?_;simp only[List.length_append,List.length_cons,List.length_nil];omega
         .have k1:=rY [44] (t.aa.map λx=>wT T b vr N x 999 false);have k2:=Br (f:=λx=>(wT T b vr N x 999 false).length) t.aa (λy hy=>vh T b vr hv N y 999 false (iu h hy));rw[List.map_map] at k1;simp only[List.length_cons,List.length_nil,Nat.zero_add] at k1;have k4:(Lib.join (t.aa.map λx=>wT T b vr N x 999 false) [44]).length<=150*Tm.br t.aa:=Nat.le_trans k1 k2;simp only[List.length_append,List.length_cons,List.length_nil];omega
def EqR(k:Nat)(rec B5:Int->St->PR×St):Prop:=∀n st,st.ax.length<k->rec n st=B5 n st
section
variable {k:Nat}{rec B5:Int->St->PR×St}(H:CO rec)(E:EqR k rec B5)
include H E
theorem z6:∀(M M':Nat) (aM:List Tm) (st:St),st.ax.length<k->st.ax.length<M->st.ax.length<M'->bN rec M aM st=bN B5 M' aM st
 |0,_,_,_,_,h,_=>by omega
 |_+1,0,_,_,_,_,h=>by omega
 |M+1,M'+1,aM,st,h1,h2,h3=>by
   unfold bN;rw[E 999 st h1] at *;by_cases c1:(B5 999 st).1.2.2=true
   .rw[if_pos c1,if_pos c1];by_cases c2:(ba [44] (B5 999 st).2).1=true
    .rw[if_pos c2,if_pos c2]
     have p1:(B5 999 st).2.ax.length<st.ax.length:=by have:=(H.ok 999 st (by rw[E 999 st h1];exact c1)).pos;rw[E 999 st h1] at this;exact this
     have p2:=(fU c2).pos;exact z6 M M' _ _ (by omega) (by omega) (by omega)
    .rw[if_neg c2,if_neg c2]
   .rw[if_neg c1,if_neg c1]
theorem abx(l:List Tm)(st:St)(h:st.ax.length<k):mU rec l st=mU B5 l st:=by unfold mU;have p:=(qq [124] st).len;rw[E 999 (ba [124] st).2 (by omega)]
theorem Rp(M M':Nat)(st:St)(h1:st.ax.length<k)(h2:st.ax.length<M)(h3:st.ax.length<M'):my rec M st=my B5 M' st:=by have p:=(mN H M [] st).1.len;unfold my;rw[z6 H E M M' [] st h1 h2 h3] at *;rw[abx H E _ _ (by omega)]
theorem Nt(c:List UInt8)(f:Tm->Tm)(st:St)(h:st.ax.length<k):jq rec c f st=jq B5 c f st:=by unfold jq;rw[E 1200 st h]
theorem abU(M M':Nat)(s:List UInt8)(st:St)(h1:st.ax.length<k)(h2:st.ax.length<M)(h3:st.ax.length<M'):pL rec M s st=pL B5 M' s st:=by unfold pL;rw[z6 H E M M' [] st h1 h2 h3]
theorem RG(T:List a7)(M M':Nat)(n:Int)(st:St)(h1:st.ax.length<=k)(h2:st.ax.length<M)(h3:st.ax.length<M'):fm rec T M n st=fm B5 T M' n st:=by
 have hl:=dv st;have qh:=dv (aA st);unfold fm;by_cases k4:(aP st).aj=4
 .rw[if_pos k4,if_pos k4]
 rw[if_neg k4,if_neg k4];by_cases k3:(aP st).aj=3
 .rw[if_pos k3,if_pos k3]
 rw[if_neg k3,if_neg k3];by_cases c1:(aP st).aj=5/\(aP st).aI=[40]
 .have:=ca (st:=st) (by omega);rw[if_pos c1,if_pos c1,Nt H E _ _ _ (by omega)]
 rw[if_neg c1,if_neg c1];by_cases c2:(aP st).aj=5/\(aP st).aI=[91]
 .have:=ca (st:=st) (by omega);rw[if_pos c2,if_pos c2,Rp H E M M' _ (by omega) (by omega) (by omega)]
 rw[if_neg c2,if_neg c2];by_cases c3:(aP st).aj=5/\(aP st).aI=[123]
 .have:=ca (st:=st) (by omega);rw[if_pos c3,if_pos c3,Nt H E _ _ _ (by omega)]
 rw[if_neg c3,if_neg c3];by_cases c4:(!eC (aP st))=true
 .rw[if_pos c4,if_pos c4]
 rw[if_neg c4,if_neg c4];have hk:(aP st).aj≠0:=λh=>c4 (by unfold eC;rw[h];rfl)
 have:=ca hk;by_cases c5:(aP st).js=true
 .rw[if_pos c5,if_pos c5,abU H E M M' _ _ (by omega) (by omega) (by omega)]
 rw[if_neg c5,if_neg c5];unfold cr;rw[E _ (aA st) (by omega)]
theorem Aj(T:List a7):∀(M M':Nat) (n:Int) (r:PR) (st:St),st.ax.length<=k->st.ax.length<M->st.ax.length<M'->gp rec T M n r st=gp B5 T M' n r st
 |0,_,_,_,_,_,h,_=>by omega
 |_+1,0,_,_,_,_,_,h=>by omega
 |M+1,M'+1,n,r,st,h1,h2,h3=>by
   have hl:=dv st;unfold gp;by_cases h0:(!r.2.2)=true
   .rw[if_pos h0,if_pos h0]
   rw[if_neg h0,if_neg h0];by_cases hb:(!(cX T (aP st)).2||decide (n<(cX T (aP st)).1.l)||decide ((aB (cX T (aP st)).1).1<r.2.1))=true
   .rw[if_pos hb,if_pos hb]
   rw[if_neg hb,if_neg hb]
   have hk:(aP st).aj≠0:=λh=>hb (by
    have:(cX T (aP st)).2=false:=by unfold cX eC;rw[h];rfl
    rw[this];rfl)
   have hp:=ca hk;have p:=(H.lv (aB (cX T (aP st)).1).2 (aA st)).len;rw[E _ (aA st) (by omega)] at *;exact Aj T M M' n _ _ (by omega) (by omega) (by omega)
end
theorem Rm(T:List a7):∀(N M:Nat) (n:Int) (st:St),st.ax.length<N->st.ax.length<M->mi T N n st=mi T M n st
 |0,_,_,_,h,_=>by omega
 |_+1,0,_,_,_,h=>by omega
 |N+1,M+1,n,st,h1,h2=>by
   have H:=wC T N;have E:EqR (min N M) (mi T N) (mi T M):=λn st h=>Rm T N M n st (by omega) (by omega)
   have p:=(wI H T (N+1) n st).1.len;unfold mi;rw[RG H E T (N+1) (M+1) n st (by omega) (by omega) (by omega)] at *;exact Aj H E T (N+1) (M+1) n _ _ (by omega) (by omega) (by omega)
def ai(T:List a7)(n:Int)(st:St):PR×St:=mi T (st.ax.length+1) n st
theorem aa5(T:List a7){N:Nat}{st:St}(h:st.ax.length<N)(n:Int):mi T N n st=ai T n st:=Rm T N _ n st h (Nat.lt_succ_self _)
def Rl(b:Nat)(t:Tm):Prop:=t.eO<=70*b/\t.gu qm=true
def ahZ(b:Nat)(l:List Tm):Prop:=Tm.fv l+70*l.length<=70*b/\Tm.ft qm l=true
structure C2(st:St):Prop where
 tk:st.ax.all yD=true
 rg:∀p∈st.ae,0<=p.2/\p.2<st.next
 le:st.next+st.ax.length<=1000000
theorem Ok.pW{a b:St}(h:Ok a b)(p:C2 a):C2 b:=⟨h.lv.all yD p.tk,h.lv.rg p.rg,by have:=h.nxr;have:=p.le;omega⟩
structure ajl(rec:Int->St->PR×St):Prop where
 b:∀n st,C2 st->(rec n st).1.2.2=true->Rl (st.ax.length-(rec n st).2.ax.length) (rec n st).1.1
theorem Rs{s:List UInt8}{n:Int}:∀{l:List (List UInt8×Int)},mz s l=some n->∃p∈l,p.2=n
 |[],h=>by cases h
 |p::r,h=>by
   unfold mz at h;split at h
   .cases h;exact⟨p,by simp,rfl⟩
   .obtain⟨q,h1,h2⟩:=Rs h;exact⟨q,List.mem_cons_of_mem _ h1,h2⟩
theorem X8{s:St}(h1:s.ax.all yD=true)(h2:0<s.ax.length):yD (aP s)=true:=by
 unfold aP
 cases hr:s.ax with
 |nil=>rw[hr] at h2;simp at h2
 |cons x r=>rw[hr,List.all_cons,Bool.and_eq_true] at h1;exact h1.1
theorem Kc{s:St}(h1:s.ax.all yD=true)(h2:0<s.ax.length):0<=(aP s).bj/\(aP s).bj<9223372036854775808:=by have h:=X8 h1 h2;unfold yD at h;simp only[Bool.and_eq_true,decide_eq_true_eq] at h;exact h.2
theorem Mv{s:St}(h1:s.ax.all yD=true)(h3:eC (aP s)=true):(aP s).aI.length<=64:=by
 by_cases h2:0<s.ax.length
 .have h:=X8 h1 h2;unfold yD at h;rw[h3] at h;simp only[Bool.not_true,Bool.or_false,Bool.and_eq_true,decide_eq_true_eq] at h;exact h.1
 .rw[KP (List.length_eq_zero_iff.1 (by omega))];decide
theorem M3(p:Tm->Bool):∀a b:List Tm,Tm.ft p (a++b)=(Tm.ft p a&&Tm.ft p b)
 |[],b=>rfl
 |t::r,b=>by simp[Tm.ft,M3 p r b,Bool.and_assoc]
theorem Dr{b:Nat}{s:List UInt8}{us:List Tm}(hs:s.length<=64)(h1:Tm.fv us<=70*b)(h2:Tm.ft qm us=true):Rl (b+1) (cE s us):=by
 cases us with
 |nil=>exact⟨by simp[cE,Tm.eO];omega,rfl⟩
 |cons t r=>exact⟨by simp only[cE,Tm.eO];omega,by simp only[cE,Tm.gu,h2];rfl⟩
theorem RA{b c:Nat}{t:Tm}(ht:Rl c t):∀{l:List Tm},ahZ b l->Rl (b+c) (eW l t)
 |[],h=>⟨by have:=ht.1;simp only[eW];omega,ht.2⟩
 |x::r,h=>by
   obtain⟨h1,h2⟩:=h;simp only[Tm.fv,List.length_cons,Tm.ft,Bool.and_eq_true] at h1 h2
   have key:∀l:List Tm,Tm.ft qm l=true->(eW l t).eO<=Tm.fv l+2*l.length+t.eO/\(eW l t).gu qm=true:=λl=>by
    induction l with
    |nil=>intro _;exact⟨by simp[eW,Tm.fv],ht.2⟩
    |cons y q ih=>
      intro h;simp only[Tm.ft,Bool.and_eq_true] at h;obtain⟨i1,i2⟩:=ih h.2;refine⟨?_,?_⟩
      .simp only[eW,Tm.eO,Tm.fv,List.length_cons,List.length_nil];omega
      .simp only[eW,Tm.gu,Tm.ft,h.1,i2];rfl
   obtain⟨k1,k2⟩:=key (x::r) (by simp only[Tm.ft,h2.1,h2.2];rfl);refine⟨?_,k2⟩;simp only[Tm.fv,List.length_cons] at k1;have:=ht.1;omega
section
variable {rec:Int->St->PR×St}(H:CO rec)(B:ajl rec)
include H B
theorem Rx:∀(M:Nat) (aM:List Tm) (st:St),C2 st->Tm.ft qm aM=true->(bN rec M aM st).1.2=true->
 Tm.fv (bN rec M aM st).1.1+70*(bN rec M aM st).1.1.length<=Tm.fv aM+70*aM.length+70*(st.ax.length-(bN rec M aM st).2.ax.length)+70/\Tm.ft qm (bN rec M aM st).1.1=true
 |0,aM,st,_,_,h=>by cases h
 |M+1,aM,st,ha,hr,h=>by
   unfold bN at h|-;by_cases c1:(rec 999 st).1.2.2=true
   .rw[if_pos c1] at h|-;obtain⟨b1,b2⟩:=B.b 999 st ha c1;have o1:=H.ok 999 st c1;have p:=o1.pos
    have N1:Tm.ft qm (aM++[(rec 999 st).1.1])=true:=by rw[M3,hr];simp[Tm.ft,b2]
    have B2:Tm.fv (aM++[(rec 999 st).1.1])=Tm.fv aM+(rec 999 st).1.1.eO:=by rw[G6];simp[Tm.fv]
    by_cases c2:(ba [44] (rec 999 st).2).1=true
    .rw[if_pos c2] at h|-;have o2:=fU c2;have p2:=o2.pos;obtain⟨i1,i2⟩:=Rx M _ _ ((o1.trans o2).pW ha) N1 h;refine⟨?_,i2⟩;have l2:=(mN H M (aM++[(rec 999 st).1.1]) (ba [44] (rec 999 st).2).2).1.len;rw[B2] at i1;simp only[List.length_append,List.length_cons,List.length_nil] at i1;omega
    .rw[if_neg c2] at h|-;refine⟨?_,N1⟩;dsimp only;rw[B2];simp only[List.length_append,List.length_cons,List.length_nil];omega
   .rw[if_neg c1] at h;cases h
theorem Nz(M:Nat)(st:St)(ha:C2 st)(h:(bN rec M [] st).1.2=true):ahZ (st.ax.length-(bN rec M [] st).2.ax.length+1) (bN rec M [] st).1.1:=by obtain⟨i1,i2⟩:=Rx H B M [] st ha rfl h;simp only[Tm.fv,List.length_nil] at i1;exact⟨by omega,i2⟩
theorem ae0(M:Nat)(st:St)(ha:C2 st)(h:(my rec M st).1.2=true):Rl (st.ax.length-(my rec M st).2.ax.length+1) (my rec M st).1.1:=by
 unfold my at h|-;by_cases c1:(bN rec M [] st).1.2=true
 .rw[if_pos c1] at h|-;have hB:=Nz H B M st ha c1;have hl:=(mN H M [] st).2 c1;have p:=hl.pos;have VL:=hl.pW ha;generalize bN rec M [] st=I at *;obtain⟨⟨l,ok⟩,st1⟩:=I;dsimp only at *;unfold mU at h|-;by_cases c2:(ba [124] st1).1=true
  .rw[if_pos c2] at h|-;have p2:=fU c2;have p3:=p2.pos;by_cases c3:(rec 999 (ba [124] st1).2).1.2.2=true
   .rw[if_pos c3] at h|-;have p4:=(fU h).pos;have p5:=(H.ok _ _ c3).pos;obtain⟨t1,t2⟩:=B.b 999 _ (p2.pW VL) c3;have:=RA (c:=(ba [124] st1).2.ax.length-(rec 999 (ba [124] st1).2).2.ax.length) ⟨t1,t2⟩ hB;refine⟨Nat.le_trans this.1 ?_,this.2⟩;dsimp only;omega
   .rw[if_neg c3] at h;cases h
  .rw[if_neg c2] at h|-;have p4:=(fU h).pos;have:=RA (c:=1) (t:=kC [91,93]) ⟨by decide,rfl⟩ hB;refine⟨Nat.le_trans this.1 ?_,this.2⟩;dsimp only;omega
 .rw[if_neg c1] at h;cases h
theorem Se(c:List UInt8)(f:Tm->Tm)(hf:∀b t,Rl b t->Rl (b+1) (f t))(st:St)(ha:C2 st)(h:(jq rec c f st).1.2.2=true):Rl (st.ax.length-(jq rec c f st).2.ax.length+1) (jq rec c f st).1.1:=by
 unfold jq at h|-;by_cases c1:(rec 1200 st).1.2.2=true
 .rw[if_pos c1] at h|-;have p:=(H.ok _ _ c1).pos;have p4:=(fU h).pos;have:=hf _ _ (B.b 1200 st ha c1);refine⟨Nat.le_trans this.1 ?_,this.2⟩;dsimp only;omega
 .rw[if_neg c1] at h;cases h
theorem afq(M:Nat)(s:List UInt8)(hs:s.length<=64)(st:St)(ha:C2 st)(h:(pL rec M s st).1.2.2=true):Rl (st.ax.length-(pL rec M s st).2.ax.length+1) (pL rec M s st).1.1:=by
 unfold pL at h|-;by_cases c1:(bN rec M [] st).1.2=true
 .rw[if_pos c1] at h|-;have hB:=Nz H B M st ha c1;have p:=((mN H M [] st).2 c1).pos;have p4:=(fU h).pos
  have eR:1<=(bN rec M [] st).1.1.length:=by
   have:∀(M:Nat) (aM:List Tm) (st:St),(bN rec M aM st).1.2=true->aM.length+1<=(bN rec M aM st).1.1.length:=λM=>by
    induction M with
    |zero=>intro aM st h;cases h
    |succ M ih=>
      intro aM st h;unfold bN at h|-;by_cases d1:(rec 999 st).1.2.2=true
      .rw[if_pos d1] at h|-;by_cases d2:(ba [44] (rec 999 st).2).1=true
       .rw[if_pos d2] at h|-;have:=ih _ _ h;simp only[List.length_append,List.length_cons,List.length_nil] at this;omega
       .rw[if_neg d2];simp
      .rw[if_neg d1] at h;cases h
   have:=this M [] st c1;simpa using this
  have:=Dr (b:=st.ax.length-(bN rec M [] st).2.ax.length) (s:=s) (us:=(bN rec M [] st).1.1) hs (by have:=hB.1;omega) hB.2;refine⟨Nat.le_trans this.1 ?_,this.2⟩;dsimp only;omega
 .rw[if_neg c1] at h;cases h
theorem aeJ(T:List a7)(M:Nat)(n:Int)(st:St)(ha:C2 st)(h:(fm rec T M n st).1.2.2=true):Rl (st.ax.length-(fm rec T M n st).2.ax.length) (fm rec T M n st).1.1:=by
 have hl:=dv st;have qh:=dv (aA st);have VL:(aP st).aj≠0->C2 (aA st):=λhk=>(mL (ca hk)).pW ha
 unfold fm at h|-;by_cases k4:(aP st).aj=4
 .rw[if_pos k4];have hp:=ca (st:=st) (by omega);have hx:=Kc ha.tk hp;refine⟨by simp only[Tm.eO,List.length_nil];omega,?_⟩;show (decide (-9223372036854775808<=(aP st).bj)&&decide ((aP st).bj<9223372036854775808))=true;simp only[Bool.and_eq_true,decide_eq_true_eq];omega
 rw[if_neg k4] at h|-;by_cases k3:(aP st).aj=3
 .rw[if_pos k3];have hp:=ca (st:=st) (by omega);have:=(Wf (s:=(aP st).aI) hp).pos;have hn:st.next<=1000000:=by have:=ha.le;omega
  dsimp only
  suffices hh:Rl 1 (l6 (aP st).aI (aA st)).1 from⟨Nat.le_trans hh.1 (by omega),hh.2⟩
  unfold l6;split
  .rename_i k hk;obtain⟨p,h1,h2⟩:=Rs hk;have:=ha.rg p h1;refine⟨by simp[Tm.eO],?_⟩;show (decide (-9223372036854775808<=k)&&decide (k<9223372036854775808))=true;simp only[Bool.and_eq_true,decide_eq_true_eq];omega
  .refine⟨by simp[Tm.eO],?_⟩;have e:(aA st).next=st.next:=rfl
   show (decide (-9223372036854775808<=((aA st).next:Int))&&decide (((aA st).next:Int)<9223372036854775808))=true;simp only[Bool.and_eq_true,decide_eq_true_eq];omega
 rw[if_neg k3] at h|-;by_cases c1:(aP st).aj=5/\(aP st).aI=[40]
 .rw[if_pos c1] at h|-;have hp:=ca (st:=st) (by omega);have b:=Se H B [41] (λt=>t) (λb t hb=>⟨Nat.le_trans hb.1 (by omega),hb.2⟩) _ (VL (by omega)) h;have hle:=(zC H [41] (λt=>t) (aA st)).1.len;exact⟨Nat.le_trans b.1 (by omega),b.2⟩
 rw[if_neg c1] at h|-;by_cases c2:(aP st).aj=5/\(aP st).aI=[91]
 .rw[if_pos c2] at h|-;have hp:=ca (st:=st) (by omega);have b:=ae0 H B M _ (VL (by omega)) h;have hle:=(Jp H M (aA st)).1.len;exact⟨Nat.le_trans b.1 (by dsimp only;omega),b.2⟩
 rw[if_neg c2] at h|-;by_cases c3:(aP st).aj=5/\(aP st).aI=[123]
 .rw[if_pos c3] at h|-;have hp:=ca (st:=st) (by omega);have b:=Se H B [125] (λt=>cE [123,125] [t]) (λb t hb=>Dr (by decide) (by have:=hb.1;simp only[Tm.fv];omega) (by simp[Tm.ft,hb.2])) _ (VL (by omega)) h;have hle:=(zC H [125] (λt=>cE [123,125] [t]) (aA st)).1.len;exact⟨Nat.le_trans b.1 (by omega),b.2⟩
 rw[if_neg c3] at h|-;by_cases c4:(!eC (aP st))=true
 .rw[if_pos c4] at h;cases h
 rw[if_neg c4] at h|-;have hk:(aP st).aj≠0:=λh=>c4 (by unfold eC;rw[h];rfl)
 have hp:=ca hk;have qU:(aP st).aI.length<=64:=Mv ha.tk (by simpa using c4);by_cases c5:(aP st).js=true
 .rw[if_pos c5] at h|-;have o:=(So H M (aP st).aI (aA (aA st))).2 h;have hle:=o.lv.len;have ZI:0<(aA st).ax.length:=by have:=o.pos;omega
  have b:=afq H B M (aP st).aI qU _ ((mL ZI).pW (VL hk)) h;exact⟨Nat.le_trans b.1 (by omega),b.2⟩
 rw[if_neg c5] at h|-;by_cases c6:(aP st).aj=1/\(aP st).aI=[45]/\(aP (aA st)).aj=4/\(aP st).Z6=true
 .rw[if_pos c6];have ZI:=ca (st:=aA st) (by omega);have hx:=Kc (VL hk).tk ZI;refine⟨by simp only[Tm.eO,List.length_nil];omega,?_⟩;show (decide (-9223372036854775808<=(-(aP (aA st)).bj))&&decide ((-(aP (aA st)).bj)<9223372036854775808))=true;simp only[Bool.and_eq_true,decide_eq_true_eq];omega
 rw[if_neg c6] at h|-;unfold cr at h|-;have uY:Rl 1 (kC (aP st).aI):=⟨by simp only[kC,Tm.eO];omega,rfl⟩
 by_cases d1:(aP st).aj=2
 .rw[if_pos d1];exact⟨Nat.le_trans uY.1 (by dsimp only;omega),uY.2⟩
 rw[if_neg d1] at h|-;by_cases d2:((aS T (aP st).aI true).2&&decide ((aS T (aP st).aI true).1.l<=n)&&iH T (aA st))=true
 .rw[if_pos d2] at h|-;have b:=B.b _ _ (VL hk) h;have p:=(H.ok _ _ h).pos;have:=Dr (b:=(aA st).ax.length-(rec (aB (aS T (aP st).aI true).1).2 (aA st)).2.ax.length) (s:=(aP st).aI) (us:=[(rec (aB (aS T (aP st).aI true).1).2 (aA st)).1.1]) qU (by have:=b.1;simp only[Tm.fv];omega) (by simp[Tm.ft,b.2]);exact⟨Nat.le_trans this.1 (by dsimp only;omega),this.2⟩
 .rw[if_neg d2];exact⟨Nat.le_trans uY.1 (by dsimp only;omega),uY.2⟩
theorem Xh(T:List a7):∀(M:Nat) (n:Int) (r:PR) (st:St) (b:Nat),C2 st->Rl b r.1->(gp rec T M n r st).1.2.2=true->Rl (b+(st.ax.length-(gp rec T M n r st).2.ax.length)) (gp rec T M n r st).1.1
 |0,n,r,st,b,_,hb,_=>⟨Nat.le_trans hb.1 (by omega),hb.2⟩
 |M+1,n,r,st,b,ha,hb,h=>by
   unfold gp at h|-;by_cases h0:(!r.2.2)=true
   .rw[if_pos h0];exact⟨Nat.le_trans hb.1 (by omega),hb.2⟩
   rw[if_neg h0] at h|-;by_cases h1:(!(cX T (aP st)).2||decide (n<(cX T (aP st)).1.l)||decide ((aB (cX T (aP st)).1).1<r.2.1))=true
   .rw[if_pos h1];exact⟨Nat.le_trans hb.1 (by omega),hb.2⟩
   rw[if_neg h1] at h|-;have hl:=dv st
   have hkx:(aP st).aj≠0/\(aP st).aI.length<=64:=by
    by_cases hn:eC (aP st)=true
    .refine⟨λh=>?_,Mv ha.tk hn⟩;unfold eC at hn;rw[h] at hn;cases hn
    .by_cases h5:(aP st).aj=5/\(aP st).aI=[44]
     .exact⟨by omega,by rw[h5.2];decide⟩
     .refine absurd ?_ h1
      have:(cX T (aP st)).2=false:=by
       unfold cX;rw[if_pos];rw[Bool.not_eq_true] at hn;rw[hn];simp only[Bool.not_false,Bool.true_and,Bool.or_eq_true,Bool.not_eq_true',decide_eq_false_iff_not];by_cases g:(aP st).aj=5
       .exact .inr λg2=>h5 ⟨g,g2⟩
       .exact .inl g
      rw[this];rfl
   have hp:=ca hkx.1;have oa:=mL hp;have Oe:=((pb H T M n _ _).2 h).1;have oq:=H.ok _ _ Oe;have bq:=B.b _ _ (oa.pW ha) Oe;have pq:=oq.pos;have hle:=(pb H T M n (cE (aP st).aI [r.1,(rec (aB (cX T (aP st)).1).2 (aA st)).1.1],(cX T (aP st)).1.l,(rec (aB (cX T (aP st)).1).2 (aA st)).1.2.2) (rec (aB (cX T (aP st)).1).2 (aA st)).2).1.len
   have hc:=Dr (b:=b+((aA st).ax.length-(rec (aB (cX T (aP st)).1).2 (aA st)).2.ax.length)) (s:=(aP st).aI) (us:=[r.1,(rec (aB (cX T (aP st)).1).2 (aA st)).1.1]) hkx.2
    (by have:=bq.1;have:=hb.1;simp only[Tm.fv];omega) (by simp[Tm.ft,bq.2,hb.2])
   have i:=Xh T M n _ _ _ ((oa.trans oq).pW ha) hc h;exact⟨Nat.le_trans i.1 (by omega),i.2⟩
end
theorem Ol(T:List a7):∀N,ajl (mi T N)
 |0=>⟨λn st _ h=>by cases h⟩
 |N+1=>⟨λn st ha h=>by have H:=wC T N;have B:=Ol T N;unfold mi at h|-;have h1:=((pb H T (N+1) n _ _).2 h).1;have o:=(wI H T (N+1) n st).2 h1;have b:=aeJ H B T (N+1) n st ha h1;have hle:=(pb H T (N+1) n (fm (mi T N) T (N+1) n st).1 (fm (mi T N) T (N+1) n st).2).1.len;have i:=Xh H B T (N+1) n _ _ _ (o.pW ha) b h;have:=o.pos;exact⟨Nat.le_trans i.1 (by omega),i.2⟩⟩
end Go.Proofs.YtjmeonoabiliiaaGreatDoor
