import Derived.Test.YtjmeonoabiliiaaGreatDoorCode
import Derived.Test.YtjmeonoabiliiaaGreatDoorSz3
set_option linter.all false
set_option maxHeartbeats 16000000
set_option maxRecDepth 100000
namespace Go.Proofs.YtjmeonoabiliiaaGreatDoor
open Go Sz
set_option maxHeartbeats 4000000
def FL:Nat->Option cN
  |9=>some c9
  |10=>some TN
  |12=>some c12
  |14=>some c14
  |15=>some c15
  |16=>some c16
  |18=>some c18
  |20=>some c20
  |24=>some c24
  |27=>some c27
  |28=>some c28
  |29=>some c29
  |30=>some c30
  |31=>some c31
  |32=>some c32
  |33=>some c33
  |34=>some c34
  |40=>some c40
  |42=>some c42
  |43=>some c43
  |44=>some c44
  |45=>some MK
  |46=>some c46
  |47=>some c47
  |48=>some c48
  |49=>some c49
  |50=>some c50
  |56=>some c56
  |59=>some c59
  |60=>some c60
  |61=>some ZS
  |62=>some MJ
  |63=>some c63
  |64=>some ZQ
  |66=>some c66
  |70=>some c70
  |71=>some c71
  |72=>some c72
  |73=>some c73
  |74=>some c74
  |75=>some c75
  |76=>some c76
  |77=>some c77
  |78=>some c78
  |79=>some c79
  |80=>some c80
  |81=>some c81
  |82=>some c82
  |83=>some c83
  |85=>some c85
  |86=>some c86
  |87=>some c87
  |98=>some Ju
  |101=>some Us
  |102=>some KQ
  |103=>some WW
  |104=>some R7
  |105=>some c105
  |106=>some ZI
  |108=>some afV
  |116=>some c116
  |117=>some c117
  |118=>some FT
  |119=>some c119
  |120=>some UI
  |121=>some Ix
  |122=>some IC
  |127=>some c127
  |135=>some Zr
  |136=>some Y2
  |137=>some Wl
  |138=>some c138
  |139=>some c139
  |140=>some Dm
  |141=>some c141
  |142=>some NC
  |157=>some c157
  |158=>some Y9
  |159=>some c159
  |160=>some c160
  |161=>some Ys
  |162=>some c162
  |163=>some Ic
  |164=>some c164
  |180=>some MU
  |181=>some sw
  |_=>none
variable (ss:List aZ)(n:Nat)(ms:List cq)(args:List AV)(f:Nat)(s:aZ)(lm:List cq)(h:af)(S:List AV->Option AV)(F:cN)
theorem Qd(h:FL f=some F):cZ Tryz.prog f F:=by
  unfold FL at h;split at h
  · cases h;exact ok9
  · cases h;exact ajm
  · cases h;exact aka
  · cases h;exact ajX
  · cases h;exact ajP
  · cases h;exact akh
  · cases h;exact aj6
  · cases h;exact akf
  · cases h;exact ajz
  · cases h;exact ajL
  · cases h;exact ajD
  · cases h;exact ajQ
  · cases h;exact ajk
  · cases h;exact ajl
  · cases h;exact ajF
  · cases h;exact akc
  · cases h;exact ajE
  · cases h;exact ajf
  · cases h;exact ajZ
  · cases h;exact akb
  · cases h;exact ajY
  · cases h;exact ajg
  · cases h;exact aje
  · cases h;exact ajt
  · cases h;exact akg
  · cases h;exact ajo
  · cases h;exact aki
  · cases h;exact aj5
  · cases h;exact aj0
  · cases h;exact ajJ
  · cases h;exact aj1
  · cases h;exact akj
  · cases h;exact ajV
  · cases h;exact ajv
  · cases h;exact ajR
  · cases h;exact ajI
  · cases h;exact akd
  · cases h;exact aj8
  · cases h;exact ajN
  · cases h;exact ajH
  · cases h;exact ajW
  · cases h;exact ajU
  · cases h;exact ajq
  · cases h;exact ajC
  · cases h;exact ajT
  · cases h;exact ajK
  · cases h;exact ajy
  · cases h;exact ajj
  · cases h;exact aj9
  · cases h;exact ajx
  · cases h;exact aj4
  · cases h;exact aji
  · cases h;exact aj3
  · cases h;exact afD
  · cases h;exact agH
  · cases h;exact afo
  · cases h;exact afH
  · cases h;exact agj
  · cases h;exact agp
  · cases h;exact agq
  · cases h;exact afI
  · cases h;exact agl
  · cases h;exact agf
  · cases h;exact ag4
  · cases h;exact ag1
  · cases h;exact afS
  · cases h;exact ahc
  · cases h;exact agS
  · cases h;exact agL
  · cases h;exact agT
  · cases h;exact agE
  · cases h;exact agI
  · cases h;exact af4
  · cases h;exact afB
  · cases h;exact afn
  · cases h;exact afR
  · cases h;exact ag8
  · cases h;exact agZ
  · cases h;exact af6
  · cases h;exact afT
  · cases h;exact agQ
  · cases h;exact afy
  · cases h;exact ago
  · cases h;exact aha
  · cases h;exact agO
  · cases h;exact afL
  · cases h
theorem mixed:Tryz.prog.follows .mixedOrders=true:=by kernel_rfl
def xH(f:Nat):aZ:=⟨f,λ|[.aD]=>some .aD|[.sl []]=>some .aD|_=>none⟩
theorem Vp:(xH f).f=f:=(rfl)
theorem K8:(xH f).S [.aD]=some .aD:=rfl
theorem Ng:(xH f).S [.sl []]=some .aD:=rfl
theorem Tz{xs:List AV}(h:xs≠[]):(xH f).S [.sl xs]=none:=by
  cases xs with
  |nil=>exact absurd rfl h
  |cons x r=>rfl
theorem Sv{f:Nat}(hc:H7 Tryz.prog f):bB Tryz.prog (xH f):=λargs v hv=>by
  have key:∀x,x=AV.aD\/x=.sl []->args=[x]->v=.aD->TW Tryz.prog f args v:=λx hx ha h2=>by subst ha h2;exact vV (h':=h0) rfl (by rcases hx with rfl|rfl<;>rfl) λφ w aU hr hG ha=>.inl (MZ mixed hc hx hr hG ha)
  unfold xH at hv;dsimp only at hv;split at hv
  · cases hv;exact key _ (.inl rfl) rfl rfl
  · cases hv;exact key _ (.inr rfl) rfl rfl
  · cases hv
def sC:List aZ:=[xH 86]
theorem GW:∀s∈sC,bB Tryz.prog s:=by
  intro s hs;simp only[sC,List.mem_cons,List.not_mem_nil,or_false] at hs;subst hs
  · exact Sv ZZ
noncomputable def cV(ss:List aZ):Env:=PV FL (ss++sC)
variable {X:World->Prop}
theorem kz{ss:List aZ}(hs:∀s∈ss,dX Tryz.prog X s):bY Tryz.prog X (cV ss):=
  KU mixed Qd λs h=>by
    rcases List.mem_append.1 h with h|h
    · exact hs s h
    · exact (GW s h).lift
theorem ch{ss:List aZ}(hs:∀s∈ss,bB Tryz.prog s):aba Tryz.prog (cV ss):=kz hs
noncomputable def nO(ss:List aZ)(n:Nat)(F:cN)(args:List AV)(h:af):Option (AV×af):=
  match aF (aH (cV ss) n) n F.code (args++List.replicate (F.ntmps-args.length) .undef) ⟨h.next,h.gS,h.next,h.next⟩ with
    |some (.exit _,_,_)=>none
    |some (_,fr,h')=>(match iR fr h' F.results with|some vs=>some (finish F.gp h (oneOf vs) h')|none=>none)
    |none=>none
noncomputable def fi(ss:List aZ)(n f:Nat)(args:List AV)(h:af):Option (AV×af):=
  match FL f with
  |none=>none
  |some F=>nO ss n F args h
noncomputable def E9(l ss:List aZ)(n f:Nat)(args:List AV)(h:af):Option (AV×af):=
  match kM (jH h 0 8) args with
  |some (rT,eB)=>(match mT l f rT with|some v=>some (v,if rz v then h else kill h eB)|none=>fi ss n f args h)
  |none=>fi ss n f args h
theorem Mm(args:List AV)(h:af):aH (cV ss) (n+1) f args h=E9 (u6 (ss++sC) f) ss n f args h:=by
  conv=>lhs;unfold aH
  have ahG:pd ((cV ss).It f) args h=none:=Fi args h;rw[ahG];unfold E9;have e:∀a,mT (u6 (ss++sC) f) f a=(cV ss).FC f a:=λa=>Ab f a _
  have e2:(cV ss).fn f=FL f:=rfl
  have key:fi ss n f args h=(match (cV ss).fn f with
      |none=>none
      |some F=>
        match aF (aH (cV ss) n) n F.code (args++List.replicate (F.ntmps-args.length) .undef) ⟨h.next,h.gS,h.next,h.next⟩ with
        |some (.exit _,_,_)=>none
        |some (_,fr,h')=>(iR fr h' F.results).map λvs=>finish F.gp h (oneOf vs) h'
        |none=>none):=by
    rw[e2];unfold fi
    cases FL f with
    |none=>rfl
    |some F=>
      dsimp only;unfold nO
      cases aF (aH (cV ss) n) n F.code (args++List.replicate (F.ntmps-args.length) .undef) ⟨h.next,h.gS,h.next,h.next⟩ with
      |none=>rfl
      |some r=>obtain⟨ex,fr,h'⟩:=r;cases ex<;>first|rfl|(dsimp only;cases iR fr h' F.results<;>rfl)
  cases hz:kM (jH h 0 8) args with
  |none=>exact key.symm
  |some p=>
    obtain⟨rT,eB⟩:=p;dsimp only[Option.bind];rw[e]
    cases hp:(cV ss).FC f rT with
    |none=>exact key.symm
    |some v=>rfl
theorem Ss(args:List AV)(h:af):E9 [] ss n f args h=fi ss n f args h:=by
  unfold E9;split
  · rfl
  · rfl
theorem Sc(ss:List aZ)(n f:Nat)(args:List AV)(h:af)(hf:s.f=f):E9 [s] ss n f args h=match kM (jH h 0 8) args with
  |some (rT,eB)=>(match s.S rT with|some v=>some (v,if rz v then h else kill h eB)|none=>fi ss n f args h)
  |none=>fi ss n f args h:=by
  unfold E9;split
  · simp only[mT,hf,if_true]
    split
    · rename_i h1
      split at h1
      · rename_i h2;cases h1;rw[h2]
      · cases h1
    · rename_i h1
      split at h1
      · cases h1
      · rename_i h2;rw[h2]
  · rfl
noncomputable def spK(ss:List aZ)(n f:Nat)(args:List AV)(h:af)(eB:List Nat):Option AV->Option (AV×af)
  |some v=>some (v,if rz v then h else kill h eB)
  |none=>fi ss n f args h
noncomputable def frK(s:aZ)(ss:List aZ)(n f:Nat)(args:List AV)(h:af):Option (List AV×List Nat)->Option (AV×af)
  |some p=>spK ss n f args h p.2 (s.S p.1)
  |none=>fi ss n f args h
theorem afq(args:List AV)(h:af)(eB:List Nat)(v:AV):spK ss n f args h eB (some v)=some (v,if rz v then h else kill h eB):=rfl
theorem afu(args:List AV)(h:af)(eB:List Nat):spK ss n f args h eB none=fi ss n f args h:=rfl
theorem af2(ss:List aZ)(n f:Nat)(args:List AV)(h:af)(bs:List AV)(eB:List Nat):frK s ss n f args h (some (bs,eB))=spK ss n f args h eB (s.S bs):=rfl
theorem agV(ss:List aZ)(n f:Nat)(args:List AV)(h:af):frK s ss n f args h none=fi ss n f args h:=rfl
theorem OG(ss:List aZ)(n f:Nat)(args:List AV)(h:af)(hf:s.f=f):E9 [s] ss n f args h=frK s ss n f args h (kM (jH h 0 8) args):=by
  rw[Sc s ss n f args h hf];rcases kM (jH h 0 8) args with _|⟨bs,eB⟩
  · rfl
  · rfl
theorem ac2(args:List AV)(h:af)(hle:args.length<=F.ntmps):nO ss n F args h=
  match aF (aH (cV ss) n) n F.code (FM F.ntmps (yO 0 args)) ⟨h.next,h.gS,h.next,h.next⟩ with
    |some (.exit _,_,_)=>none
    |some (_,fr,h')=>(match iR fr h' F.results with|some vs=>some (finish F.gp h (oneOf vs) h')|none=>none)
    |none=>none:=by
  rw[<-IV args hle];rfl
theorem Wg:fi ss n 9 args h=nO ss n c9 args h:=rfl
theorem Ae:fi ss n 10 args h=nO ss n TN args h:=rfl
theorem Py:fi ss n 16 args h=nO ss n c16 args h:=rfl
theorem afr:fi ss n 18 args h=nO ss n c18 args h:=rfl
theorem Po:fi ss n 27 args h=nO ss n c27 args h:=rfl
theorem agb:fi ss n 28 args h=nO ss n c28 args h:=rfl
theorem ags:fi ss n 29 args h=nO ss n c29 args h:=rfl
theorem ag0:fi ss n 30 args h=nO ss n c30 args h:=rfl
theorem JX:fi ss n 31 args h=nO ss n c31 args h:=rfl
theorem afw:fi ss n 32 args h=nO ss n c32 args h:=rfl
theorem T7:fi ss n 34 args h=nO ss n c34 args h:=rfl
theorem Ko:fi ss n 46 args h=nO ss n c46 args h:=rfl
theorem Vx:fi ss n 47 args h=nO ss n c47 args h:=rfl
theorem agk:fi ss n 48 args h=nO ss n c48 args h:=rfl
theorem aa5:fi ss n 59 args h=nO ss n c59 args h:=rfl
theorem age:fi ss n 60 args h=nO ss n c60 args h:=rfl
theorem Gc:fi ss n 61 args h=nO ss n ZS args h:=rfl
theorem rS:fi ss n 62 args h=nO ss n MJ args h:=rfl
theorem Pt:fi ss n 63 args h=nO ss n c63 args h:=rfl
theorem Gv:fi ss n 64 args h=nO ss n ZQ args h:=rfl
theorem afZ:fi ss n 66 args h=nO ss n c66 args h:=rfl
theorem P1:fi ss n 70 args h=nO ss n c70 args h:=rfl
theorem afF:fi ss n 74 args h=nO ss n c74 args h:=rfl
theorem abe:fi ss n 75 args h=nO ss n c75 args h:=rfl
theorem afY:fi ss n 76 args h=nO ss n c76 args h:=rfl
theorem Wt:fi ss n 77 args h=nO ss n c77 args h:=rfl
theorem aa7:fi ss n 78 args h=nO ss n c78 args h:=rfl
theorem Un:fi ss n 79 args h=nO ss n c79 args h:=rfl
theorem afp:fi ss n 82 args h=nO ss n c82 args h:=rfl
theorem PJ:fi ss n 85 args h=nO ss n c85 args h:=rfl
theorem agd:fi ss n 86 args h=nO ss n c86 args h:=rfl
theorem Uy:fi ss n 87 args h=nO ss n c87 args h:=rfl
theorem U0:fi ss n 101 args h=nO ss n Us args h:=rfl
theorem Em:fi ss n 102 args h=nO ss n KQ args h:=rfl
theorem UT:fi ss n 103 args h=nO ss n WW args h:=rfl
theorem OQ:fi ss n 104 args h=nO ss n R7 args h:=rfl
theorem abB:fi ss n 105 args h=nO ss n c105 args h:=rfl
theorem adA:fi ss n 106 args h=nO ss n ZI args h:=rfl
theorem ac5:fi ss n 116 args h=nO ss n c116 args h:=rfl
theorem ad2:fi ss n 117 args h=nO ss n c117 args h:=rfl
theorem xJ:fi ss n 118 args h=nO ss n FT args h:=rfl
theorem Wb:fi ss n 119 args h=nO ss n c119 args h:=rfl
theorem AN:fi ss n 122 args h=nO ss n IC args h:=rfl
theorem qN:fi ss n 127 args h=nO ss n c127 args h:=rfl
theorem ada:fi ss n 135 args h=nO ss n Zr args h:=rfl
theorem adL:fi ss n 136 args h=nO ss n Y2 args h:=rfl
theorem Jb:fi ss n 157 args h=nO ss n c157 args h:=rfl
theorem acR:fi ss n 158 args h=nO ss n Y9 args h:=rfl
theorem N8:fi ss n 162 args h=nO ss n c162 args h:=rfl
theorem H3:fi ss n 180 args h=nO ss n MU args h:=rfl
noncomputable def cg(ss:List aZ)(ms:List cq):Env:=UX FL (ss++sC) ms
theorem dW{ss:List aZ}(hs:∀s∈ss,dX Tryz.prog X s){ms:List cq}(hm:∀m∈ms,cr Tryz.prog X m):bY Tryz.prog X (cg ss ms):=
  Te mixed Qd (λs h=>by
    rcases List.mem_append.1 h with h|h
    · exact hs s h
    · exact (GW s h).lift) hm
theorem vS{ss:List aZ}(hs:∀s∈ss,bB Tryz.prog s){ms:List cq}(hm:∀m∈ms,ml Tryz.prog m):aba Tryz.prog (cg ss ms):=dW hs hm
noncomputable def j8(ss:List aZ)(ms:List cq)(n:Nat)(F:cN)(args:List AV)(h:af):Option (AV×af):=
  match aF (aH (cg ss ms) n) n F.code (args++List.replicate (F.ntmps-args.length) .undef) ⟨h.next,h.gS,h.next,h.next⟩ with
    |some (.exit _,_,_)=>none
    |some (_,fr,h')=>(match iR fr h' F.results with|some vs=>some (finish F.gp h (oneOf vs) h')|none=>none)
    |none=>none
noncomputable def fE(ss:List aZ)(ms:List cq)(n f:Nat)(args:List AV)(h:af):Option (AV×af):=
  match FL f with
  |none=>none
  |some F=>j8 ss ms n F args h
noncomputable def moK(ss:List aZ)(ms:List cq)(n f:Nat)(args:List AV)(h:af):Option (AV×af)->Option (AV×af)
  |some r=>some r
  |none=>fE ss ms n f args h
theorem ahd(n f:Nat)(args:List AV)(h:af)(r:AV×af):moK ss ms n f args h (some r)=some r:=rfl
theorem afU(n f:Nat)(args:List AV)(h:af):moK ss ms n f args h none=fE ss ms n f args h:=rfl
noncomputable def vd(lm:List cq)(ss:List aZ)(ms:List cq)(n f:Nat)(args:List AV)(h:af):Option (AV×af):=moK ss ms n f args h (pd (pU lm f) args h)
noncomputable def Z9(lm:List cq)(ss:List aZ)(ms:List cq)(n f:Nat)(args:List AV)(h:af)(eB:List Nat):Option AV->Option (AV×af)
  |some v=>some (v,if rz v then h else kill h eB)
  |none=>vd lm ss ms n f args h
noncomputable def Zm(S:List AV->Option AV)(lm:List cq)(ss:List aZ)(ms:List cq)(n f:Nat)(args:List AV)(h:af):Option (List AV×List Nat)->Option (AV×af)
  |some p=>Z9 lm ss ms n f args h p.2 (S p.1)
  |none=>vd lm ss ms n f args h
theorem ab7(ss:List aZ)(ms:List cq)(n f:Nat)(args:List AV)(h:af)(eB:List Nat)(v:AV):Z9 lm ss ms n f args h eB (some v)=some (v,if rz v then h else kill h eB):=rfl
theorem WB(ss:List aZ)(ms:List cq)(n f:Nat)(args:List AV)(h:af)(eB:List Nat):Z9 lm ss ms n f args h eB none=vd lm ss ms n f args h:=rfl
theorem Ux(lm:List cq)(ss:List aZ)(ms:List cq)(n f:Nat)(args:List AV)(h:af)(bs:List AV)(eB:List Nat):Zm S lm ss ms n f args h (some (bs,eB))=Z9 lm ss ms n f args h eB (S bs):=rfl
theorem WR(lm:List cq)(ss:List aZ)(ms:List cq)(n f:Nat)(args:List AV)(h:af):Zm S lm ss ms n f args h none=vd lm ss ms n f args h:=rfl
noncomputable def GJ(l:List aZ)(lm:List cq)(ss:List aZ)(ms:List cq)(n f:Nat)(args:List AV)(h:af):Option (AV×af):=Zm (mT l f) lm ss ms n f args h (kM (jH h 0 8) args)
theorem I0(n f:Nat)(args:List AV)(h:af):aH (cg ss ms) (n+1) f args h=GJ (u6 (ss++sC) f) (qH ms f) ss ms n f args h:=by
  conv=>lhs;unfold aH
  have e:∀a,mT (u6 (ss++sC) f) f a=(cg ss ms).FC f a:=λa=>Ab f a _
  have e1:pU (qH ms f) f=(cg ss ms).It f:=funext λa=>funext λo=>AJ f a o ms
  have e2:(cg ss ms).fn f=FL f:=rfl
  have key:fE ss ms n f args h=(match (cg ss ms).fn f with
      |none=>none
      |some F=>
        match aF (aH (cg ss ms) n) n F.code (args++List.replicate (F.ntmps-args.length) .undef) ⟨h.next,h.gS,h.next,h.next⟩ with
        |some (.exit _,_,_)=>none
        |some (_,fr,h')=>(iR fr h' F.results).map λvs=>finish F.gp h (oneOf vs) h'
        |none=>none):=by
    rw[e2];unfold fE
    cases FL f with
    |none=>rfl
    |some F=>
      dsimp only;unfold j8
      cases aF (aH (cg ss ms) n) n F.code (args++List.replicate (F.ntmps-args.length) .undef) ⟨h.next,h.gS,h.next,h.next⟩ with
      |none=>rfl
      |some r=>obtain⟨ex,fr,h'⟩:=r;cases ex<;>first|rfl|(dsimp only;cases iR fr h' F.results<;>rfl)
  have aev:vd (qH ms f) ss ms n f args h=(match pd ((cg ss ms).It f) args h with
      |some r=>some r
      |none=>fE ss ms n f args h):=by
    unfold vd;rw[e1]
    cases pd ((cg ss ms).It f) args h with
    |none=>rfl
    |some r=>rfl
  rw[key] at aev;unfold GJ
  cases hz:kM (jH h 0 8) args with
  |none=>rw[WR];exact aev.symm
  |some p=>
    obtain⟨rT,eB⟩:=p;rw[Ux];dsimp only[Option.bind];rw[e]
    cases hp:(cg ss ms).FC f rT with
    |none=>rw[WB];exact aev.symm
    |some v=>rfl
theorem QX(ss:List aZ)(ms:List cq)(n f:Nat)(args:List AV)(h:af):GJ [] lm ss ms n f args h=vd lm ss ms n f args h:=by
  unfold GJ
  cases kM (jH h 0 8) args with
  |none=>rfl
  |some p=>rfl
theorem Sh(ss:List aZ)(ms:List cq)(n f:Nat)(args:List AV)(h:af)(hf:s.f=f):GJ [s] lm ss ms n f args h=Zm s.S lm ss ms n f args h (kM (jH h 0 8) args):=by
  unfold GJ
  have e:mT [s] f=s.S:=funext λa=>by simp only[mT,hf,if_true];cases s.S a<;>rfl
  rw[e]
theorem RH(n f:Nat)(args:List AV)(h:af):vd [] ss ms n f args h=fE ss ms n f args h:=by
  unfold vd;have e:pU [] f=λ_ _=>none:=rfl
  rw[e,Fi];rfl
theorem SM(m:cq)(ss:List aZ)(ms:List cq)(n f:Nat)(args:List AV)(h:af)(hf:m.f=f):vd [m] ss ms n f args h=moK ss ms n f args h (pd m.S args h):=by
  unfold vd
  have e:pU [m] f=m.S:=funext λa=>funext λo=>by simp only[pU,hf,if_true];cases m.S a o<;>rfl
  rw[e]
theorem aaq(n:Nat)(F:cN)(args:List AV)(h:af)(hle:args.length<=F.ntmps):j8 ss ms n F args h=
  match aF (aH (cg ss ms) n) n F.code (FM F.ntmps (yO 0 args)) ⟨h.next,h.gS,h.next,h.next⟩ with
    |some (.exit _,_,_)=>none
    |some (_,fr,h')=>(match iR fr h' F.results with|some vs=>some (finish F.gp h (oneOf vs) h')|none=>none)
    |none=>none:=by
  rw[<-IV args hle];rfl
theorem acO(n:Nat)(args:List AV)(h:af):fE ss ms n 14 args h=j8 ss ms n c14 args h:=rfl
theorem H4(n:Nat)(args:List AV)(h:af):fE ss ms n 15 args h=j8 ss ms n c15 args h:=rfl
theorem TU(n:Nat)(args:List AV)(h:af):fE ss ms n 20 args h=j8 ss ms n c20 args h:=rfl
theorem Xn(n:Nat)(args:List AV)(h:af):fE ss ms n 24 args h=j8 ss ms n c24 args h:=rfl
theorem T4(n:Nat)(args:List AV)(h:af):fE ss ms n 42 args h=j8 ss ms n c42 args h:=rfl
theorem acb(n:Nat)(args:List AV)(h:af):fE ss ms n 43 args h=j8 ss ms n c43 args h:=rfl
theorem Ww(n:Nat)(args:List AV)(h:af):fE ss ms n 44 args h=j8 ss ms n c44 args h:=rfl
theorem nh(n:Nat)(args:List AV)(h:af):fE ss ms n 45 args h=j8 ss ms n MK args h:=rfl
theorem UA(n:Nat)(args:List AV)(h:af):fE ss ms n 49 args h=j8 ss ms n c49 args h:=rfl
theorem H6(n:Nat)(args:List AV)(h:af):fE ss ms n 50 args h=j8 ss ms n c50 args h:=rfl
theorem MS(n:Nat)(args:List AV)(h:af):fE ss ms n 56 args h=j8 ss ms n c56 args h:=rfl
theorem adD(n:Nat)(args:List AV)(h:af):fE ss ms n 71 args h=j8 ss ms n c71 args h:=rfl
theorem HZ(n:Nat)(args:List AV)(h:af):fE ss ms n 72 args h=j8 ss ms n c72 args h:=rfl
theorem adm(n:Nat)(args:List AV)(h:af):fE ss ms n 73 args h=j8 ss ms n c73 args h:=rfl
theorem ad8(n:Nat)(args:List AV)(h:af):fE ss ms n 80 args h=j8 ss ms n c80 args h:=rfl
theorem OL(n:Nat)(args:List AV)(h:af):fE ss ms n 81 args h=j8 ss ms n c81 args h:=rfl
theorem acH(n:Nat)(args:List AV)(h:af):fE ss ms n 83 args h=j8 ss ms n c83 args h:=rfl
theorem lN(n:Nat)(args:List AV)(h:af):fE ss ms n 98 args h=j8 ss ms n Ju args h:=rfl
theorem Qx(n:Nat)(args:List AV)(h:af):fE ss ms n 120 args h=j8 ss ms n UI args h:=rfl
theorem wx(n:Nat)(args:List AV)(h:af):fE ss ms n 121 args h=j8 ss ms n Ix args h:=rfl
theorem P5(n:Nat)(args:List AV)(h:af):fE ss ms n 137 args h=j8 ss ms n Wl args h:=rfl
theorem Cn(n:Nat)(args:List AV)(h:af):fE ss ms n 138 args h=j8 ss ms n c138 args h:=rfl
theorem CF(n:Nat)(args:List AV)(h:af):fE ss ms n 139 args h=j8 ss ms n c139 args h:=rfl
theorem pV(n:Nat)(args:List AV)(h:af):fE ss ms n 140 args h=j8 ss ms n Dm args h:=rfl
theorem oH(n:Nat)(args:List AV)(h:af):fE ss ms n 141 args h=j8 ss ms n c141 args h:=rfl
theorem CH(n:Nat)(args:List AV)(h:af):fE ss ms n 142 args h=j8 ss ms n NC args h:=rfl
theorem zX(n:Nat)(args:List AV)(h:af):fE ss ms n 159 args h=j8 ss ms n c159 args h:=rfl
theorem vH(n:Nat)(args:List AV)(h:af):fE ss ms n 160 args h=j8 ss ms n c160 args h:=rfl
theorem YN(n:Nat)(args:List AV)(h:af):fE ss ms n 161 args h=j8 ss ms n Ys args h:=rfl
theorem vx(n:Nat)(args:List AV)(h:af):fE ss ms n 163 args h=j8 ss ms n Ic args h:=rfl
theorem YA(n:Nat)(args:List AV)(h:af):fE ss ms n 164 args h=j8 ss ms n c164 args h:=rfl
theorem ir(n:Nat)(args:List AV)(h:af):fE ss ms n 181 args h=j8 ss ms n sw args h:=rfl
end Go.Proofs.YtjmeonoabiliiaaGreatDoor
