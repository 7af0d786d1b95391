import Derived.Test.YtjmeonoabiliiaaGreatDoorCode
import Derived.Test.YtjmeonoabiliiaaGreatDoorSz3
set_option linter.all false
set_option maxHeartbeats 16000000
set_option maxRecDepth 100000
namespace Go.Proofs.YtjmeonoabiliiaaGreatDoor
open Go Sz
set_option maxHeartbeats 4000000
def GP:Nat->Option cL
  |7=>some c7
  |8=>some c8
  |12=>some c12
  |14=>some c14
  |15=>some c15
  |18=>some c18
  |19=>some c19
  |20=>some c20
  |23=>some c23
  |24=>some c24
  |26=>some c26
  |27=>some c27
  |28=>some c28
  |29=>some c29
  |30=>some c30
  |31=>some c31
  |32=>some c32
  |33=>some c33
  |34=>some c34
  |37=>some c37
  |40=>some c40
  |42=>some c42
  |43=>some c43
  |44=>some c44
  |45=>some Oh
  |47=>some c47
  |48=>some c48
  |49=>some c49
  |50=>some c50
  |52=>some c52
  |54=>some c54
  |56=>some c56
  |58=>some c58
  |59=>some c59
  |60=>some c60
  |61=>some c61
  |62=>some JP
  |63=>some c63
  |64=>some c64
  |66=>some c66
  |70=>some c70
  |71=>some c71
  |72=>some c72
  |73=>some c73
  |74=>some c74
  |75=>some c75
  |76=>some c76
  |77=>some c77
  |78=>some c78
  |79=>some c79
  |80=>some c80
  |81=>some c81
  |82=>some c82
  |83=>some c83
  |86=>some c86
  |87=>some c87
  |90=>some c90
  |91=>some c91
  |92=>some Jn
  |93=>some c93
  |98=>some Kk
  |100=>some PN
  |101=>some OR
  |102=>some Mi
  |103=>some U6
  |104=>some Uc
  |105=>some c105
  |106=>some abH
  |108=>some aik
  |114=>some abh
  |116=>some c116
  |117=>some c117
  |118=>some GV
  |119=>some c119
  |120=>some WJ
  |121=>some JM
  |122=>some JR
  |127=>some c127
  |135=>some abm
  |136=>some aaW
  |137=>some Ys
  |138=>some c138
  |139=>some c139
  |140=>some Ee
  |141=>some c141
  |142=>some Pk
  |157=>some c157
  |158=>some aa3
  |159=>some c159
  |160=>some c160
  |161=>some aal
  |162=>some c162
  |163=>some Js
  |164=>some c164
  |180=>some Ot
  |181=>some tS
  |_=>none
variable (ss:List aW)(n:Nat)(ms:List cw)(args:List AV)(f:Nat)(s:aW)(lm:List cw)(h:af)(S:List AV->Option AV)(F:cL)
theorem RX(h:GP f=some F):cQ Tryz.prog f F:=by
  unfold GP at h;split at h
  · cases h;exact ok7
  · cases h;exact ok8
  · cases h;exact amG
  · cases h;exact amp
  · cases h;exact amf
  · cases h;exact amA
  · cases h;exact alI
  · cases h;exact amM
  · cases h;exact amO
  · cases h;exact alV
  · cases h;exact amP
  · cases h;exact al9
  · cases h;exact alZ
  · cases h;exact amg
  · cases h;exact alJ
  · cases h;exact alK
  · cases h;exact al3
  · cases h;exact amJ
  · cases h;exact al0
  · cases h;exact aml
  · cases h;exact alD
  · cases h;exact amt
  · cases h;exact amI
  · cases h;exact ams
  · cases h;exact alE
  · cases h;exact alQ
  · cases h;exact amN
  · cases h;exact alM
  · cases h;exact amQ
  · cases h;exact amE
  · cases h;exact amd
  · cases h;exact amz
  · cases h;exact amF
  · cases h;exact amu
  · cases h;exact al7
  · cases h;exact amv
  · cases h;exact amR
  · cases h;exact amm
  · cases h;exact alS
  · cases h;exact amh
  · cases h;exact al6
  · cases h;exact amK
  · cases h;exact amC
  · cases h;exact amc
  · cases h;exact al5
  · cases h;exact amo
  · cases h;exact amk
  · cases h;exact alO
  · cases h;exact alY
  · cases h;exact amj
  · cases h;exact al8
  · cases h;exact alU
  · cases h;exact alH
  · cases h;exact amD
  · cases h;exact amy
  · cases h;exact alG
  · cases h;exact amq
  · cases h;exact ama
  · cases h;exact amH
  · cases h;exact amn
  · cases h;exact amx
  · cases h;exact ah2
  · cases h;exact ah0
  · cases h;exact ai5
  · cases h;exact ahJ
  · cases h;exact ah4
  · cases h;exact aiG
  · cases h;exact aiN
  · cases h;exact aiO
  · cases h;exact ajf
  · cases h;exact ah5
  · cases h;exact aiJ
  · cases h;exact aiE
  · cases h;exact ajq
  · cases h;exact ajn
  · cases h;exact aif
  · cases h;exact ajy
  · cases h;exact aje
  · cases h;exact ai9
  · cases h;exact ajg
  · cases h;exact ai2
  · cases h;exact ai6
  · cases h;exact ait
  · cases h;exact ahY
  · cases h;exact ahI
  · cases h;exact aie
  · cases h;exact aju
  · cases h;exact ajm
  · cases h;exact aiv
  · cases h;exact aih
  · cases h;exact ajc
  · cases h;exact ahU
  · cases h;exact aiM
  · cases h;exact ajx
  · cases h;exact ajb
  · cases h;exact ah8
  · cases h
theorem mixed:Tryz.prog.follows .mixedOrders=true:=by kernel_rfl
def yl(f:Nat):aW:=⟨f,λ|[.aF]=>some .aF|[.sl []]=>some .aF|_=>none⟩
theorem Xq:(yl f).f=f:=(rfl)
theorem ME:(yl f).S [.aF]=some .aF:=rfl
theorem OP:(yl f).S [.sl []]=some .aF:=rfl
theorem VB{xs:List AV}(h:xs≠[]):(yl f).S [.sl xs]=none:=by
  cases xs with
  |nil=>exact absurd rfl h
  |cons x r=>rfl
theorem Uz{f:Nat}(hc:Jj Tryz.prog f):aX Tryz.prog (yl f):=λargs v hv=>by
  have key:∀x,x=AV.aF\/x=.sl []->args=[x]->v=.aF->VZ Tryz.prog f args v:=λx hx ha h2=>by subst ha h2;exact w6 (h':=h0) rfl (by rcases hx with rfl|rfl<;>rfl) λφ w aV hr hG ha=>.inl (OA mixed hc hx hr hG ha)
  unfold yl at hv;dsimp only at hv;split at hv
  · cases hv;exact key _ (.inl rfl) rfl rfl
  · cases hv;exact key _ (.inr rfl) rfl rfl
  · cases hv
def tW:List aW:=[yl 86]
theorem H3:∀s∈tW,aX Tryz.prog s:=by
  intro s hs;simp only[tW,List.mem_cons,List.not_mem_nil,or_false] at hs;subst hs
  · exact Uz abY
noncomputable def cD(ss:List aW):Env:=RF GP (ss++tW)
variable {X:World->Prop}
theorem jF{ss:List aW}(hs:∀s∈ss,dU Tryz.prog X s):cb Tryz.prog X (cD ss):=
  Mo mixed RX λs h=>by
    rcases List.mem_append.1 h with h|h
    · exact hs s h
    · exact (H3 s h).lift
theorem bK{ss:List aW}(hs:∀s∈ss,aX Tryz.prog s):adn Tryz.prog (cD ss):=jF hs
noncomputable def mb(ss:List aW)(n:Nat)(F:cL)(args:List AV)(h:af):Option (AV×af):=
  match aC (aH (cD ss) n) n F.code (args++List.replicate (F.ntmps-args.length) .undef) ⟨h.next,h.gm,h.next,h.next⟩ with
    |some (.exit _,_,_)=>none
    |some (_,fr,h')=>(match jf fr h' F.results with|some vs=>some (finish F.gB h (oneOf vs) h')|none=>none)
    |none=>none
noncomputable def eD(ss:List aW)(n f:Nat)(args:List AV)(h:af):Option (AV×af):=
  match GP f with
  |none=>none
  |some F=>mb ss n F args h
noncomputable def F4(l ss:List aW)(n f:Nat)(args:List AV)(h:af):Option (AV×af):=
  match lg (jL h 0 8) args with
  |some (tj,eG)=>(match nA l f tj with|some v=>some (v,if sc v then h else kill h eG)|none=>eD ss n f args h)
  |none=>eD ss n f args h
theorem NV(args:List AV)(h:af):aH (cD ss) (n+1) f args h=F4 (vI (ss++tW) f) ss n f args h:=by
  conv=>lhs;unfold aH
  have ajZ:pP ((cD ss).JJ f) args h=none:=Gf args h;rw[ajZ];unfold F4;have e:∀a,nA (vI (ss++tW) f) f a=(cD ss).GD f a:=λa=>AG f a _
  have e2:(cD ss).fn f=GP f:=rfl
  have key:eD ss n f args h=(match (cD ss).fn f with
      |none=>none
      |some F=>
        match aC (aH (cD ss) n) n F.code (args++List.replicate (F.ntmps-args.length) .undef) ⟨h.next,h.gm,h.next,h.next⟩ with
        |some (.exit _,_,_)=>none
        |some (_,fr,h')=>(jf fr h' F.results).map λvs=>finish F.gB h (oneOf vs) h'
        |none=>none):=by
    rw[e2];unfold eD
    cases GP f with
    |none=>rfl
    |some F=>
      dsimp only;unfold mb
      cases aC (aH (cD ss) n) n F.code (args++List.replicate (F.ntmps-args.length) .undef) ⟨h.next,h.gm,h.next,h.next⟩ with
      |none=>rfl
      |some r=>obtain⟨ex,fr,h'⟩:=r;cases ex<;>first|rfl|(dsimp only;cases jf fr h' F.results<;>rfl)
  cases hz:lg (jL h 0 8) args with
  |none=>exact key.symm
  |some p=>
    obtain⟨tj,eG⟩:=p;dsimp only[Option.bind];rw[e]
    cases hp:(cD ss).GD f tj with
    |none=>exact key.symm
    |some v=>rfl
theorem Ux(args:List AV)(h:af):F4 [] ss n f args h=eD ss n f args h:=by
  unfold F4;split
  · rfl
  · rfl
theorem Ug(ss:List aW)(n f:Nat)(args:List AV)(h:af)(hf:s.f=f):F4 [s] ss n f args h=match lg (jL h 0 8) args with
  |some (tj,eG)=>(match s.S tj with|some v=>some (v,if sc v then h else kill h eG)|none=>eD ss n f args h)
  |none=>eD ss n f args h:=by
  unfold F4;split
  · simp only[nA,hf,if_true]
    split
    · rename_i h1
      split at h1
      · rename_i h2;cases h1;rw[h2]
      · cases h1
    · rename_i h1
      split at h1
      · cases h1
      · rename_i h2;rw[h2]
  · rfl
noncomputable def spK(ss:List aW)(n f:Nat)(args:List AV)(h:af)(eG:List Nat):Option AV->Option (AV×af)
  |some v=>some (v,if sc v then h else kill h eG)
  |none=>eD ss n f args h
noncomputable def frK(s:aW)(ss:List aW)(n f:Nat)(args:List AV)(h:af):Option (List AV×List Nat)->Option (AV×af)
  |some p=>spK ss n f args h p.2 (s.S p.1)
  |none=>eD ss n f args h
theorem ahN(args:List AV)(h:af)(eG:List Nat)(v:AV):spK ss n f args h eG (some v)=some (v,if sc v then h else kill h eG):=rfl
theorem ahQ(args:List AV)(h:af)(eG:List Nat):spK ss n f args h eG none=eD ss n f args h:=rfl
theorem air(ss:List aW)(n f:Nat)(args:List AV)(h:af)(bs:List AV)(eG:List Nat):frK s ss n f args h (some (bs,eG))=spK ss n f args h eG (s.S bs):=rfl
theorem aji(ss:List aW)(n f:Nat)(args:List AV)(h:af):frK s ss n f args h none=eD ss n f args h:=rfl
theorem Qq(ss:List aW)(n f:Nat)(args:List AV)(h:af)(hf:s.f=f):F4 [s] ss n f args h=frK s ss n f args h (lg (jL h 0 8) args):=by
  rw[Ug s ss n f args h hf];rcases lg (jL h 0 8) args with _|⟨bs,eG⟩
  · rfl
  · rfl
theorem afe(args:List AV)(h:af)(hle:args.length<=F.ntmps):mb ss n F args h=
  match aC (aH (cD ss) n) n F.code (FM F.ntmps (zw 0 args)) ⟨h.next,h.gm,h.next,h.next⟩ with
    |some (.exit _,_,_)=>none
    |some (_,fr,h')=>(match jf fr h' F.results with|some vs=>some (finish F.gB h (oneOf vs) h')|none=>none)
    |none=>none:=by
  rw[<-Kb args hle];rfl
theorem Tp:eD ss n 7 args h=mb ss n c7 args h:=rfl
theorem al1:eD ss n 8 args h=mb ss n c8 args h:=rfl
theorem ahO:eD ss n 18 args h=mb ss n c18 args h:=rfl
theorem Mh:eD ss n 19 args h=mb ss n c19 args h:=rfl
theorem ac6:eD ss n 23 args h=mb ss n c23 args h:=rfl
theorem aiH:eD ss n 26 args h=mb ss n c26 args h:=rfl
theorem Rg:eD ss n 27 args h=mb ss n c27 args h:=rfl
theorem aiA:eD ss n 28 args h=mb ss n c28 args h:=rfl
theorem adi:eD ss n 29 args h=mb ss n c29 args h:=rfl
theorem ads:eD ss n 30 args h=mb ss n c30 args h:=rfl
theorem Lg:eD ss n 31 args h=mb ss n c31 args h:=rfl
theorem ahS:eD ss n 32 args h=mb ss n c32 args h:=rfl
theorem V8:eD ss n 34 args h=mb ss n c34 args h:=rfl
theorem F8:eD ss n 37 args h=mb ss n c37 args h:=rfl
theorem XA:eD ss n 47 args h=mb ss n c47 args h:=rfl
theorem aiI:eD ss n 48 args h=mb ss n c48 args h:=rfl
theorem XE:eD ss n 52 args h=mb ss n c52 args h:=rfl
theorem ZB:eD ss n 54 args h=mb ss n c54 args h:=rfl
theorem aia:eD ss n 58 args h=mb ss n c58 args h:=rfl
theorem adb:eD ss n 59 args h=mb ss n c59 args h:=rfl
theorem aiD:eD ss n 60 args h=mb ss n c60 args h:=rfl
theorem Hk:eD ss n 61 args h=mb ss n c61 args h:=rfl
theorem o3:eD ss n 62 args h=mb ss n JP args h:=rfl
theorem Ri:eD ss n 63 args h=mb ss n c63 args h:=rfl
theorem HB:eD ss n 64 args h=mb ss n c64 args h:=rfl
theorem aip:eD ss n 66 args h=mb ss n c66 args h:=rfl
theorem RM:eD ss n 70 args h=mb ss n c70 args h:=rfl
theorem ac7:eD ss n 74 args h=mb ss n c74 args h:=rfl
theorem YO:eD ss n 75 args h=mb ss n c75 args h:=rfl
theorem aio:eD ss n 76 args h=mb ss n c76 args h:=rfl
theorem M1:eD ss n 77 args h=mb ss n c77 args h:=rfl
theorem Xz:eD ss n 78 args h=mb ss n c78 args h:=rfl
theorem Rb:eD ss n 79 args h=mb ss n c79 args h:=rfl
theorem ahL:eD ss n 82 args h=mb ss n c82 args h:=rfl
theorem aiC:eD ss n 86 args h=mb ss n c86 args h:=rfl
theorem Wu:eD ss n 87 args h=mb ss n c87 args h:=rfl
theorem adk:eD ss n 90 args h=mb ss n c90 args h:=rfl
theorem W8:eD ss n 91 args h=mb ss n c91 args h:=rfl
theorem oZ:eD ss n 92 args h=mb ss n Jn args h:=rfl
theorem FL:eD ss n 93 args h=mb ss n c93 args h:=rfl
theorem Jl:eD ss n 100 args h=mb ss n PN args h:=rfl
theorem Jo:eD ss n 101 args h=mb ss n OR args h:=rfl
theorem Fb:eD ss n 102 args h=mb ss n Mi args h:=rfl
theorem O5:eD ss n 103 args h=mb ss n U6 args h:=rfl
theorem QD:eD ss n 104 args h=mb ss n Uc args h:=rfl
theorem adU:eD ss n 105 args h=mb ss n c105 args h:=rfl
theorem afK:eD ss n 106 args h=mb ss n abH args h:=rfl
theorem af1:eD ss n 114 args h=mb ss n abh args h:=rfl
theorem afi:eD ss n 116 args h=mb ss n c116 args h:=rfl
theorem agl:eD ss n 117 args h=mb ss n c117 args h:=rfl
theorem ym:eD ss n 118 args h=mb ss n GV args h:=rfl
theorem Ym:eD ss n 119 args h=mb ss n c119 args h:=rfl
theorem Bm:eD ss n 122 args h=mb ss n JR args h:=rfl
theorem rB:eD ss n 127 args h=mb ss n c127 args h:=rfl
theorem afo:eD ss n 135 args h=mb ss n abm args h:=rfl
theorem afY:eD ss n 136 args h=mb ss n aaW args h:=rfl
theorem Ks:eD ss n 157 args h=mb ss n c157 args h:=rfl
theorem ae2:eD ss n 158 args h=mb ss n aa3 args h:=rfl
theorem PS:eD ss n 162 args h=mb ss n c162 args h:=rfl
theorem Jg:eD ss n 180 args h=mb ss n Ot args h:=rfl
noncomputable def cm(ss:List aW)(ms:List cw):Env:=WU GP (ss++tW) ms
theorem ey{ss:List aW}(hs:∀s∈ss,dU Tryz.prog X s){ms:List cw}(hm:∀m∈ms,cB Tryz.prog X m):cb Tryz.prog X (cm ss ms):=
  Vk mixed RX (λs h=>by
    rcases List.mem_append.1 h with h|h
    · exact hs s h
    · exact (H3 s h).lift) hm
theorem wZ{ss:List aW}(hs:∀s∈ss,aX Tryz.prog s){ms:List cw}(hm:∀m∈ms,mP Tryz.prog m):adn Tryz.prog (cm ss ms):=ey hs hm
noncomputable def kD(ss:List aW)(ms:List cw)(n:Nat)(F:cL)(args:List AV)(h:af):Option (AV×af):=
  match aC (aH (cm ss ms) n) n F.code (args++List.replicate (F.ntmps-args.length) .undef) ⟨h.next,h.gm,h.next,h.next⟩ with
    |some (.exit _,_,_)=>none
    |some (_,fr,h')=>(match jf fr h' F.results with|some vs=>some (finish F.gB h (oneOf vs) h')|none=>none)
    |none=>none
noncomputable def fJ(ss:List aW)(ms:List cw)(n f:Nat)(args:List AV)(h:af):Option (AV×af):=
  match GP f with
  |none=>none
  |some F=>kD ss ms n F args h
noncomputable def moK(ss:List aW)(ms:List cw)(n f:Nat)(args:List AV)(h:af):Option (AV×af)->Option (AV×af)
  |some r=>some r
  |none=>fJ ss ms n f args h
theorem ajz(n f:Nat)(args:List AV)(h:af)(r:AV×af):moK ss ms n f args h (some r)=some r:=rfl
theorem aii(n f:Nat)(args:List AV)(h:af):moK ss ms n f args h none=fJ ss ms n f args h:=rfl
noncomputable def vR(lm:List cw)(ss:List aW)(ms:List cw)(n f:Nat)(args:List AV)(h:af):Option (AV×af):=moK ss ms n f args h (pP (qH lm f) args h)
noncomputable def ab8(lm:List cw)(ss:List aW)(ms:List cw)(n f:Nat)(args:List AV)(h:af)(eG:List Nat):Option AV->Option (AV×af)
  |some v=>some (v,if sc v then h else kill h eG)
  |none=>vR lm ss ms n f args h
noncomputable def abg(S:List AV->Option AV)(lm:List cw)(ss:List aW)(ms:List cw)(n f:Nat)(args:List AV)(h:af):Option (List AV×List Nat)->Option (AV×af)
  |some p=>ab8 lm ss ms n f args h p.2 (S p.1)
  |none=>vR lm ss ms n f args h
theorem aem(ss:List aW)(ms:List cw)(n f:Nat)(args:List AV)(h:af)(eG:List Nat)(v:AV):ab8 lm ss ms n f args h eG (some v)=some (v,if sc v then h else kill h eG):=rfl
theorem YF(ss:List aW)(ms:List cw)(n f:Nat)(args:List AV)(h:af)(eG:List Nat):ab8 lm ss ms n f args h eG none=vR lm ss ms n f args h:=rfl
theorem Wt(lm:List cw)(ss:List aW)(ms:List cw)(n f:Nat)(args:List AV)(h:af)(bs:List AV)(eG:List Nat):abg S lm ss ms n f args h (some (bs,eG))=ab8 lm ss ms n f args h eG (S bs):=rfl
theorem YS(lm:List cw)(ss:List aW)(ms:List cw)(n f:Nat)(args:List AV)(h:af):abg S lm ss ms n f args h none=vR lm ss ms n f args h:=rfl
noncomputable def HS(l:List aW)(lm:List cw)(ss:List aW)(ms:List cw)(n f:Nat)(args:List AV)(h:af):Option (AV×af):=abg (nA l f) lm ss ms n f args h (lg (jL h 0 8) args)
theorem Kh(n f:Nat)(args:List AV)(h:af):aH (cm ss ms) (n+1) f args h=HS (vI (ss++tW) f) (rn ms f) ss ms n f args h:=by
  conv=>lhs;unfold aH
  have e:∀a,nA (vI (ss++tW) f) f a=(cm ss ms).GD f a:=λa=>AG f a _
  have e1:qH (rn ms f) f=(cm ss ms).JJ f:=funext λa=>funext λo=>Bi f a o ms
  have e2:(cm ss ms).fn f=GP f:=rfl
  have key:fJ ss ms n f args h=(match (cm ss ms).fn f with
      |none=>none
      |some F=>
        match aC (aH (cm ss ms) n) n F.code (args++List.replicate (F.ntmps-args.length) .undef) ⟨h.next,h.gm,h.next,h.next⟩ with
        |some (.exit _,_,_)=>none
        |some (_,fr,h')=>(jf fr h' F.results).map λvs=>finish F.gB h (oneOf vs) h'
        |none=>none):=by
    rw[e2];unfold fJ
    cases GP f with
    |none=>rfl
    |some F=>
      dsimp only;unfold kD
      cases aC (aH (cm ss ms) n) n F.code (args++List.replicate (F.ntmps-args.length) .undef) ⟨h.next,h.gm,h.next,h.next⟩ with
      |none=>rfl
      |some r=>obtain⟨ex,fr,h'⟩:=r;cases ex<;>first|rfl|(dsimp only;cases jf fr h' F.results<;>rfl)
  have agP:vR (rn ms f) ss ms n f args h=(match pP ((cm ss ms).JJ f) args h with
      |some r=>some r
      |none=>fJ ss ms n f args h):=by
    unfold vR;rw[e1]
    cases pP ((cm ss ms).JJ f) args h with
    |none=>rfl
    |some r=>rfl
  rw[key] at agP;unfold HS
  cases hz:lg (jL h 0 8) args with
  |none=>rw[YS];exact agP.symm
  |some p=>
    obtain⟨tj,eG⟩:=p;rw[Wt];dsimp only[Option.bind];rw[e]
    cases hp:(cm ss ms).GD f tj with
    |none=>rw[YF];exact agP.symm
    |some v=>rfl
theorem SQ(ss:List aW)(ms:List cw)(n f:Nat)(args:List AV)(h:af):HS [] lm ss ms n f args h=vR lm ss ms n f args h:=by
  unfold HS
  cases lg (jL h 0 8) args with
  |none=>rfl
  |some p=>rfl
theorem Un(ss:List aW)(ms:List cw)(n f:Nat)(args:List AV)(h:af)(hf:s.f=f):HS [s] lm ss ms n f args h=abg s.S lm ss ms n f args h (lg (jL h 0 8) args):=by
  unfold HS
  have e:nA [s] f=s.S:=funext λa=>by simp only[nA,hf,if_true];cases s.S a<;>rfl
  rw[e]
theorem TL(n f:Nat)(args:List AV)(h:af):vR [] ss ms n f args h=fJ ss ms n f args h:=by
  unfold vR;have e:qH [] f=λ_ _=>none:=rfl
  rw[e,Gf];rfl
theorem UT(m:cw)(ss:List aW)(ms:List cw)(n f:Nat)(args:List AV)(h:af)(hf:m.f=f):vR [m] ss ms n f args h=moK ss ms n f args h (pP m.S args h):=by
  unfold vR
  have e:qH [m] f=m.S:=funext λa=>funext λo=>by simp only[qH,hf,if_true];cases m.S a o<;>rfl
  rw[e]
theorem acu(n:Nat)(F:cL)(args:List AV)(h:af)(hle:args.length<=F.ntmps):kD ss ms n F args h=
  match aC (aH (cm ss ms) n) n F.code (FM F.ntmps (zw 0 args)) ⟨h.next,h.gm,h.next,h.next⟩ with
    |some (.exit _,_,_)=>none
    |some (_,fr,h')=>(match jf fr h' F.results with|some vs=>some (finish F.gB h (oneOf vs) h')|none=>none)
    |none=>none:=by
  rw[<-Kb args hle];rfl
theorem aeZ(n:Nat)(args:List AV)(h:af):fJ ss ms n 14 args h=kD ss ms n c14 args h:=rfl
theorem Jh(n:Nat)(args:List AV)(h:af):fJ ss ms n 15 args h=kD ss ms n c15 args h:=rfl
theorem VX(n:Nat)(args:List AV)(h:af):fJ ss ms n 20 args h=kD ss ms n c20 args h:=rfl
theorem Zi(n:Nat)(args:List AV)(h:af):fJ ss ms n 24 args h=kD ss ms n c24 args h:=rfl
theorem V6(n:Nat)(args:List AV)(h:af):fJ ss ms n 42 args h=kD ss ms n c42 args h:=rfl
theorem aeq(n:Nat)(args:List AV)(h:af):fJ ss ms n 43 args h=kD ss ms n c43 args h:=rfl
theorem YB(n:Nat)(args:List AV)(h:af):fJ ss ms n 44 args h=kD ss ms n c44 args h:=rfl
theorem nL(n:Nat)(args:List AV)(h:af):fJ ss ms n 45 args h=kD ss ms n Oh args h:=rfl
theorem Wy(n:Nat)(args:List AV)(h:af):fJ ss ms n 49 args h=kD ss ms n c49 args h:=rfl
theorem Ji(n:Nat)(args:List AV)(h:af):fJ ss ms n 50 args h=kD ss ms n c50 args h:=rfl
theorem I1(n:Nat)(args:List AV)(h:af):fJ ss ms n 56 args h=kD ss ms n c56 args h:=rfl
theorem afO(n:Nat)(args:List AV)(h:af):fJ ss ms n 71 args h=kD ss ms n c71 args h:=rfl
theorem Jd(n:Nat)(args:List AV)(h:af):fJ ss ms n 72 args h=kD ss ms n c72 args h:=rfl
theorem afy(n:Nat)(args:List AV)(h:af):fJ ss ms n 73 args h=kD ss ms n c73 args h:=rfl
theorem QJ(n:Nat)(args:List AV)(h:af):fJ ss ms n 80 args h=kD ss ms n c80 args h:=rfl
theorem Qw(n:Nat)(args:List AV)(h:af):fJ ss ms n 81 args h=kD ss ms n c81 args h:=rfl
theorem aeR(n:Nat)(args:List AV)(h:af):fJ ss ms n 83 args h=kD ss ms n c83 args h:=rfl
theorem lE(n:Nat)(args:List AV)(h:af):fJ ss ms n 98 args h=kD ss ms n Kk args h:=rfl
theorem Sq(n:Nat)(args:List AV)(h:af):fJ ss ms n 120 args h=kD ss ms n WJ args h:=rfl
theorem xv(n:Nat)(args:List AV)(h:af):fJ ss ms n 121 args h=kD ss ms n JM args h:=rfl
theorem RR(n:Nat)(args:List AV)(h:af):fJ ss ms n 137 args h=kD ss ms n Ys args h:=rfl
theorem Df(n:Nat)(args:List AV)(h:af):fJ ss ms n 138 args h=kD ss ms n c138 args h:=rfl
theorem zN(n:Nat)(args:List AV)(h:af):fJ ss ms n 139 args h=kD ss ms n c139 args h:=rfl
theorem qI(n:Nat)(args:List AV)(h:af):fJ ss ms n 140 args h=kD ss ms n Ee args h:=rfl
theorem pf(n:Nat)(args:List AV)(h:af):fJ ss ms n 141 args h=kD ss ms n c141 args h:=rfl
theorem Dz(n:Nat)(args:List AV)(h:af):fJ ss ms n 142 args h=kD ss ms n Pk args h:=rfl
theorem Av(n:Nat)(args:List AV)(h:af):fJ ss ms n 159 args h=kD ss ms n c159 args h:=rfl
theorem wL(n:Nat)(args:List AV)(h:af):fJ ss ms n 160 args h=kD ss ms n c160 args h:=rfl
theorem aaC(n:Nat)(args:List AV)(h:af):fJ ss ms n 161 args h=kD ss ms n aal args h:=rfl
theorem wz(n:Nat)(args:List AV)(h:af):fJ ss ms n 163 args h=kD ss ms n Js args h:=rfl
theorem aar(n:Nat)(args:List AV)(h:af):fJ ss ms n 164 args h=kD ss ms n c164 args h:=rfl
theorem iK(n:Nat)(args:List AV)(h:af):fJ ss ms n 181 args h=kD ss ms n tS args h:=rfl
end Go.Proofs.YtjmeonoabiliiaaGreatDoor
