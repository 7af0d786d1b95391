import Derived.Test.YtjmeonoabiliiaaGreatDoorCode
import Derived.Test.YtjmeonoabiliiaaGreatDoorSz3
set_option linter.all false
set_option maxHeartbeats 16000000
set_option maxRecDepth 100000
namespace Go.Proofs.YtjmeonoabiliiaaGreatDoor
open Go Sz
set_option maxHeartbeats 4000000
def E9:Nat->Option cn
  |3=>some c3
  |11=>some c11
  |12=>some c12
  |13=>some c13
  |14=>some c14
  |15=>some c15
  |17=>some c17
  |25=>some c25
  |27=>some c27
  |28=>some c28
  |29=>some c29
  |30=>some c30
  |32=>some c32
  |33=>some c33
  |35=>some c35
  |36=>some c36
  |37=>some c37
  |38=>some c38
  |39=>some c39
  |40=>some c40
  |41=>some c41
  |42=>some c42
  |43=>some c43
  |44=>some c44
  |45=>some LW
  |47=>some c47
  |48=>some c48
  |51=>some c51
  |52=>some c52
  |53=>some c53
  |54=>some c54
  |57=>some c57
  |59=>some c59
  |60=>some c60
  |61=>some c61
  |62=>some LV
  |63=>some c63
  |66=>some c66
  |67=>some c67
  |68=>some c68
  |69=>some c69
  |70=>some c70
  |71=>some c71
  |72=>some c72
  |73=>some c73
  |74=>some c74
  |75=>some c75
  |76=>some c76
  |77=>some c77
  |78=>some c78
  |79=>some c79
  |80=>some c80
  |81=>some c81
  |82=>some c82
  |83=>some c83
  |86=>some c86
  |88=>some MO
  |89=>some c89
  |90=>some c90
  |91=>some c91
  |92=>some Hs
  |93=>some c93
  |94=>some c94
  |95=>some c95
  |99=>some c99
  |101=>some Tv
  |102=>some J9
  |103=>some VL
  |104=>some Rq
  |105=>some c105
  |106=>some Y7
  |108=>some afs
  |109=>some c109
  |110=>some nw
  |111=>some XI
  |112=>some rI
  |113=>some HP
  |114=>some YL
  |115=>some Nu
  |116=>some c116
  |117=>some c117
  |118=>some Fg
  |119=>some c119
  |120=>some TF
  |121=>some HO
  |122=>some HZ
  |128=>some HI
  |129=>some afh
  |131=>some c131
  |132=>some QC
  |144=>some UU
  |145=>some c145
  |146=>some c146
  |147=>some Y9
  |148=>some c148
  |149=>some Nt
  |150=>some JE
  |151=>some Yb
  |152=>some c152
  |153=>some Zd
  |154=>some c154
  |155=>some Hn
  |156=>some c156
  |157=>some c157
  |158=>some Yr
  |159=>some c159
  |160=>some c160
  |161=>some Xy
  |162=>some c162
  |163=>some Hv
  |164=>some c164
  |177=>some Aa
  |178=>some VA
  |179=>some kv
  |180=>some L4
  |181=>some rZ
  |195=>some YJ
  |_=>none
variable (ss:List aX)(n:Nat)(ms:List cr)(args:List AV)(f:Nat)(s:aX)(lm:List cr)(h:ai)(S:List AV->Option AV)(F:cn)
theorem PG(h:E9 f=some F):cD Tryz.prog f F:=by
  unfold E9 at h;split at h
  · cases h;exact ok3
  · cases h;exact ajV
  · cases h;exact aj3
  · cases h;exact ajv
  · cases h;exact ajI
  · cases h;exact ajy
  · cases h;exact ajB
  · cases h;exact aj7
  · cases h;exact ajp
  · cases h;exact aji
  · cases h;exact ajz
  · cases h;exact aiY
  · cases h;exact ajj
  · cases h;exact aj6
  · cases h;exact ai4
  · cases h;exact aja
  · cases h;exact ajE
  · cases h;exact aje
  · cases h;exact ajL
  · cases h;exact aiU
  · cases h;exact ai8
  · cases h;exact ajN
  · cases h;exact aj5
  · cases h;exact ajK
  · cases h;exact aiV
  · cases h;exact ai7
  · cases h;exact aj9
  · cases h;exact ajx
  · cases h;exact aj1
  · cases h;exact ajk
  · cases h;exact aju
  · cases h;exact aj2
  · cases h;exact ajQ
  · cases h;exact ajn
  · cases h;exact ajR
  · cases h;exact aka
  · cases h;exact ajF
  · cases h;exact ajA
  · cases h;exact ajW
  · cases h;exact ajO
  · cases h;exact ajP
  · cases h;exact ajm
  · cases h;exact aj8
  · cases h;exact ajZ
  · cases h;exact ajt
  · cases h;exact ajl
  · cases h;exact ajH
  · cases h;exact ajD
  · cases h;exact ai2
  · cases h;exact ajh
  · cases h;exact ajC
  · cases h;exact ajo
  · cases h;exact ajc
  · cases h;exact aiX
  · cases h;exact aj0
  · cases h;exact ajU
  · cases h;exact ajs
  · cases h;exact aiZ
  · cases h;exact ajJ
  · cases h;exact ajq
  · cases h;exact aj4
  · cases h;exact ajG
  · cases h;exact ai9
  · cases h;exact ai5
  · cases h;exact ajM
  · cases h;exact ae9
  · cases h;exact agm
  · cases h;exact aeS
  · cases h;exact afd
  · cases h;exact afR
  · cases h;exact afY
  · cases h;exact af0
  · cases h;exact agk
  · cases h;exact aeT
  · cases h;exact agT
  · cases h;exact af9
  · cases h;exact afu
  · cases h;exact agv
  · cases h;exact afn
  · cases h;exact afe
  · cases h;exact afU
  · cases h;exact afO
  · cases h;exact agK
  · cases h;exact agG
  · cases h;exact afm
  · cases h;exact agX
  · cases h;exact af1
  · cases h;exact ae1
  · cases h;exact agj
  · cases h;exact afZ
  · cases h;exact aeU
  · cases h;exact agq
  · cases h;exact afM
  · cases h;exact agA
  · cases h;exact agb
  · cases h;exact aff
  · cases h;exact agV
  · cases h;exact aeZ
  · cases h;exact afV
  · cases h;exact agE
  · cases h;exact age
  · cases h;exact agW
  · cases h;exact agS
  · cases h;exact agO
  · cases h;exact agD
  · cases h;exact afE
  · cases h;exact afo
  · cases h;exact agu
  · cases h;exact ae5
  · cases h;exact afX
  · cases h;exact agU
  · cases h;exact agw
  · cases h;exact agc
  · cases h;exact afv
  · cases h;exact agr
  · cases h;exact afj
  · cases h;exact aeW
  · cases h
theorem mixed:Tryz.prog.follows .mixedOrders=true:=by kernel_rfl
def wY(f:Nat):aX:=⟨f,λ|[.aJ]=>some .aJ|[.sl []]=>some .aJ|_=>none⟩
theorem Uj:(wY f).f=f:=(rfl)
theorem Ko:(wY f).S [.aJ]=some .aJ:=rfl
theorem Mv:(wY f).S [.sl []]=some .aJ:=rfl
theorem SE{xs:List AV}(h:xs≠[]):(wY f).S [.sl xs]=none:=by
  cases xs with
  |nil=>exact absurd rfl h
  |cons x r=>rfl
theorem RO{f:Nat}(hc:Hp Tryz.prog f):aY Tryz.prog (wY f):=λargs v hv=>by
  have key:∀x,x=AV.aJ\/x=.sl []->args=[x]->v=.aJ->SY Tryz.prog f args v:=λx hx ha h2=>by subst ha h2;exact vE (h':=h0) rfl (by rcases hx with rfl|rfl<;>rfl) λφ w bu hr hG ha=>.inl (Md mixed hc hx hr hG ha)
  unfold wY at hv;dsimp only at hv;split at hv
  · cases hv;exact key _ (.inl rfl) rfl rfl
  · cases hv;exact key _ (.inr rfl) rfl rfl
  · cases hv
def sr:List aX:=[wY 86]
theorem Gt:∀s∈sr,aY Tryz.prog s:=by
  intro s hs;simp only[sr,List.mem_cons,List.not_mem_nil,or_false] at hs;subst hs
  · exact RO Zs
noncomputable def cY(ss:List aX):Env:=Po E9 (ss++sr)
variable {X:World->Prop}
theorem oR{ss:List aX}(hs:∀s∈ss,fi Tryz.prog X s):cT Tryz.prog X (cY ss):=
  Kc mixed PG λs h=>by
    rcases List.mem_append.1 h with h|h
    · exact hs s h
    · exact (Gt s h).lift
theorem bA{ss:List aX}(hs:∀s∈ss,aY Tryz.prog s):aaN Tryz.prog (cY ss):=oR hs
noncomputable def kb(ss:List aX)(n:Nat)(F:cn)(args:List AV)(h:ai):Option (AV×ai):=
  match aH (aF (cY ss) n) n F.code (args++List.replicate (F.ntmps-args.length) .undef) ⟨h.next,h.iF,h.next,h.next⟩ with
    |some (.exit _,_,_)=>none
    |some (_,fr,h')=>(match jj fr h' F.results with|some vs=>some (finish F.gK h (oneOf vs) h')|none=>none)
    |none=>none
noncomputable def dS(ss:List aX)(n f:Nat)(args:List AV)(h:ai):Option (AV×ai):=
  match E9 f with
  |none=>none
  |some F=>kb ss n F args h
noncomputable def EF(l ss:List aX)(n f:Nat)(args:List AV)(h:ai):Option (AV×ai):=
  match kY (jF h 0 8) args with
  |some (rE,eS)=>(match nd l f rE with|some v=>some (v,if re v then h else kill h eS)|none=>dS ss n f args h)
  |none=>dS ss n f args h
theorem Lz(args:List AV)(h:ai):aF (cY ss) (n+1) f args h=EF (uG (ss++sr) f) ss n f args h:=by
  conv=>lhs;unfold aF
  have ahs:pf ((cY ss).HJ f) args h=none:=EK args h;rw[ahs];unfold EF;have e:∀a,nd (uG (ss++sr) f) f a=(cY ss).E3 f a:=λa=>y5 f a _
  have e2:(cY ss).fn f=E9 f:=rfl
  have key:dS ss n f args h=(match (cY ss).fn f with
      |none=>none
      |some F=>
        match aH (aF (cY ss) n) n F.code (args++List.replicate (F.ntmps-args.length) .undef) ⟨h.next,h.iF,h.next,h.next⟩ with
        |some (.exit _,_,_)=>none
        |some (_,fr,h')=>(jj fr h' F.results).map λvs=>finish F.gK h (oneOf vs) h'
        |none=>none):=by
    rw[e2];unfold dS
    cases E9 f with
    |none=>rfl
    |some F=>
      dsimp only;unfold kb
      cases aH (aF (cY ss) n) n F.code (args++List.replicate (F.ntmps-args.length) .undef) ⟨h.next,h.iF,h.next,h.next⟩ with
      |none=>rfl
      |some r=>obtain⟨ex,fr,h'⟩:=r;cases ex<;>first|rfl|(dsimp only;cases jj fr h' F.results<;>rfl)
  cases hz:kY (jF h 0 8) args with
  |none=>exact key.symm
  |some p=>
    obtain⟨rE,eS⟩:=p;dsimp only[Option.bind];rw[e]
    cases hp:(cY ss).E3 f rE with
    |none=>exact key.symm
    |some v=>rfl
theorem RL(args:List AV)(h:ai):EF [] ss n f args h=dS ss n f args h:=by
  unfold EF;split
  · rfl
  · rfl
theorem Ru(ss:List aX)(n f:Nat)(args:List AV)(h:ai)(hf:s.f=f):EF [s] ss n f args h=match kY (jF h 0 8) args with
  |some (rE,eS)=>(match s.S rE with|some v=>some (v,if re v then h else kill h eS)|none=>dS ss n f args h)
  |none=>dS ss n f args h:=by
  unfold EF;split
  · simp only[nd,hf,if_true]
    split
    · rename_i h1
      split at h1
      · rename_i h2;cases h1;rw[h2]
      · cases h1
    · rename_i h1
      split at h1
      · cases h1
      · rename_i h2;rw[h2]
  · rfl
noncomputable def spK(ss:List aX)(n f:Nat)(args:List AV)(h:ai)(eS:List Nat):Option AV->Option (AV×ai)
  |some v=>some (v,if re v then h else kill h eS)
  |none=>dS ss n f args h
noncomputable def frK(s:aX)(ss:List aX)(n f:Nat)(args:List AV)(h:ai):Option (List AV×List Nat)->Option (AV×ai)
  |some p=>spK ss n f args h p.2 (s.S p.1)
  |none=>dS ss n f args h
theorem aeY(args:List AV)(h:ai)(eS:List Nat)(v:AV):spK ss n f args h eS (some v)=some (v,if re v then h else kill h eS):=rfl
theorem ae2(args:List AV)(h:ai)(eS:List Nat):spK ss n f args h eS none=dS ss n f args h:=rfl
theorem afA(ss:List aX)(n f:Nat)(args:List AV)(h:ai)(bs:List AV)(eS:List Nat):frK s ss n f args h (some (bs,eS))=spK ss n f args h eS (s.S bs):=rfl
theorem agy(ss:List aX)(n f:Nat)(args:List AV)(h:ai):frK s ss n f args h none=dS ss n f args h:=rfl
theorem NS(ss:List aX)(n f:Nat)(args:List AV)(h:ai)(hf:s.f=f):EF [s] ss n f args h=frK s ss n f args h (kY (jF h 0 8) args):=by
  rw[Ru s ss n f args h hf];rcases kY (jF h 0 8) args with _|⟨bs,eS⟩
  · rfl
  · rfl
theorem acH(args:List AV)(h:ai)(hle:args.length<=F.ntmps):kb ss n F args h=
  match aH (aF (cY ss) n) n F.code (FM F.ntmps (ya 0 args)) ⟨h.next,h.iF,h.next,h.next⟩ with
    |some (.exit _,_,_)=>none
    |some (_,fr,h')=>(match jj fr h' F.results with|some vs=>some (finish F.gK h (oneOf vs) h')|none=>none)
    |none=>none:=by
  rw[<-Is args hle];rfl
theorem ajg:dS ss n 3 args h=kb ss n c3 args h:=rfl
theorem VC:dS ss n 11 args h=kb ss n c11 args h:=rfl
theorem ae6:dS ss n 13 args h=kb ss n c13 args h:=rfl
theorem OS:dS ss n 27 args h=kb ss n c27 args h:=rfl
theorem afI:dS ss n 28 args h=kb ss n c28 args h:=rfl
theorem af3:dS ss n 29 args h=kb ss n c29 args h:=rfl
theorem agF:dS ss n 30 args h=kb ss n c30 args h:=rfl
theorem ae4:dS ss n 32 args h=kb ss n c32 args h:=rfl
theorem S6:dS ss n 36 args h=kb ss n c36 args h:=rfl
theorem EG:dS ss n 37 args h=kb ss n c37 args h:=rfl
theorem aas:dS ss n 38 args h=kb ss n c38 args h:=rfl
theorem afK:dS ss n 41 args h=kb ss n c41 args h:=rfl
theorem Uq:dS ss n 47 args h=kb ss n c47 args h:=rfl
theorem afS:dS ss n 48 args h=kb ss n c48 args h:=rfl
theorem Vn:dS ss n 51 args h=kb ss n c51 args h:=rfl
theorem aaG:dS ss n 52 args h=kb ss n c52 args h:=rfl
theorem aay:dS ss n 59 args h=kb ss n c59 args h:=rfl
theorem afN:dS ss n 60 args h=kb ss n c60 args h:=rfl
theorem OL:dS ss n 61 args h=kb ss n c61 args h:=rfl
theorem rB:dS ss n 62 args h=kb ss n LV args h:=rfl
theorem OV:dS ss n 63 args h=kb ss n c63 args h:=rfl
theorem afx:dS ss n 66 args h=kb ss n c66 args h:=rfl
theorem P7:dS ss n 67 args h=kb ss n c67 args h:=rfl
theorem Pt:dS ss n 70 args h=kb ss n c70 args h:=rfl
theorem afb:dS ss n 74 args h=kb ss n c74 args h:=rfl
theorem aaT:dS ss n 75 args h=kb ss n c75 args h:=rfl
theorem afw:dS ss n 76 args h=kb ss n c76 args h:=rfl
theorem Vp:dS ss n 77 args h=kb ss n c77 args h:=rfl
theorem aaE:dS ss n 78 args h=kb ss n c78 args h:=rfl
theorem Tn:dS ss n 79 args h=kb ss n c79 args h:=rfl
theorem aeV:dS ss n 82 args h=kb ss n c82 args h:=rfl
theorem afL:dS ss n 86 args h=kb ss n c86 args h:=rfl
theorem tw:dS ss n 88 args h=kb ss n MO args h:=rfl
theorem aeX:dS ss n 89 args h=kb ss n c89 args h:=rfl
theorem aaJ:dS ss n 90 args h=kb ss n c90 args h:=rfl
theorem T1:dS ss n 91 args h=kb ss n c91 args h:=rfl
theorem oy:dS ss n 92 args h=kb ss n Hs args h:=rfl
theorem aaF:dS ss n 94 args h=kb ss n c94 args h:=rfl
theorem TU:dS ss n 101 args h=kb ss n Tv args h:=rfl
theorem DH:dS ss n 102 args h=kb ss n J9 args h:=rfl
theorem TP:dS ss n 103 args h=kb ss n VL args h:=rfl
theorem N2:dS ss n 104 args h=kb ss n Rq args h:=rfl
theorem abd:dS ss n 105 args h=kb ss n c105 args h:=rfl
theorem adl:dS ss n 106 args h=kb ss n Y7 args h:=rfl
theorem Ef:dS ss n 109 args h=kb ss n c109 args h:=rfl
theorem gM:dS ss n 110 args h=kb ss n nw args h:=rfl
theorem AE:dS ss n 113 args h=kb ss n HP args h:=rfl
theorem ady:dS ss n 114 args h=kb ss n YL args h:=rfl
theorem acJ:dS ss n 116 args h=kb ss n c116 args h:=rfl
theorem adU:dS ss n 117 args h=kb ss n c117 args h:=rfl
theorem w7:dS ss n 118 args h=kb ss n Fg args h:=rfl
theorem U9:dS ss n 119 args h=kb ss n c119 args h:=rfl
theorem zV:dS ss n 122 args h=kb ss n HZ args h:=rfl
theorem adw:dS ss n 128 args h=kb ss n HI args h:=rfl
theorem acQ:dS ss n 131 args h=kb ss n c131 args h:=rfl
theorem L3:dS ss n 132 args h=kb ss n QC args h:=rfl
theorem Vh:dS ss n 144 args h=kb ss n UU args h:=rfl
theorem MK:dS ss n 145 args h=kb ss n c145 args h:=rfl
theorem acp:dS ss n 146 args h=kb ss n c146 args h:=rfl
theorem abJ:dS ss n 147 args h=kb ss n Y9 args h:=rfl
theorem tR:dS ss n 148 args h=kb ss n c148 args h:=rfl
theorem HA:dS ss n 149 args h=kb ss n Nt args h:=rfl
theorem Ew:dS ss n 150 args h=kb ss n JE args h:=rfl
theorem abu:dS ss n 151 args h=kb ss n Yb args h:=rfl
theorem ID:dS ss n 157 args h=kb ss n c157 args h:=rfl
theorem acu:dS ss n 158 args h=kb ss n Yr args h:=rfl
theorem Nq:dS ss n 162 args h=kb ss n c162 args h:=rfl
theorem qE:dS ss n 177 args h=kb ss n Aa args h:=rfl
theorem Ul:dS ss n 178 args h=kb ss n VA args h:=rfl
theorem Hk:dS ss n 180 args h=kb ss n L4 args h:=rfl
theorem acC:dS ss n 195 args h=kb ss n YJ args h:=rfl
noncomputable def b9(ss:List aX)(ms:List cr):Env:=TR E9 (ss++sr) ms
theorem dK{ss:List aX}(hs:∀s∈ss,fi Tryz.prog X s){ms:List cr}(hm:∀m∈ms,cC Tryz.prog X m):cT Tryz.prog X (b9 ss ms):=
  Sh mixed PG (λs h=>by
    rcases List.mem_append.1 h with h|h
    · exact hs s h
    · exact (Gt s h).lift) hm
theorem yv{ss:List aX}(hs:∀s∈ss,aY Tryz.prog s){ms:List cr}(hm:∀m∈ms,nK Tryz.prog m):aaN Tryz.prog (b9 ss ms):=dK hs hm
noncomputable def jW(ss:List aX)(ms:List cr)(n:Nat)(F:cn)(args:List AV)(h:ai):Option (AV×ai):=
  match aH (aF (b9 ss ms) n) n F.code (args++List.replicate (F.ntmps-args.length) .undef) ⟨h.next,h.iF,h.next,h.next⟩ with
    |some (.exit _,_,_)=>none
    |some (_,fr,h')=>(match jj fr h' F.results with|some vs=>some (finish F.gK h (oneOf vs) h')|none=>none)
    |none=>none
noncomputable def fw(ss:List aX)(ms:List cr)(n f:Nat)(args:List AV)(h:ai):Option (AV×ai):=
  match E9 f with
  |none=>none
  |some F=>jW ss ms n F args h
noncomputable def moK(ss:List aX)(ms:List cr)(n f:Nat)(args:List AV)(h:ai):Option (AV×ai)->Option (AV×ai)
  |some r=>some r
  |none=>fw ss ms n f args h
theorem agY(n f:Nat)(args:List AV)(h:ai)(r:AV×ai):moK ss ms n f args h (some r)=some r:=rfl
theorem afp(n f:Nat)(args:List AV)(h:ai):moK ss ms n f args h none=fw ss ms n f args h:=rfl
noncomputable def uL(lm:List cr)(ss:List aX)(ms:List cr)(n f:Nat)(args:List AV)(h:ai):Option (AV×ai):=moK ss ms n f args h (pf (pV lm f) args h)
noncomputable def ZD(lm:List cr)(ss:List aX)(ms:List cr)(n f:Nat)(args:List AV)(h:ai)(eS:List Nat):Option AV->Option (AV×ai)
  |some v=>some (v,if re v then h else kill h eS)
  |none=>uL lm ss ms n f args h
noncomputable def YI(S:List AV->Option AV)(lm:List cr)(ss:List aX)(ms:List cr)(n f:Nat)(args:List AV)(h:ai):Option (List AV×List Nat)->Option (AV×ai)
  |some p=>ZD lm ss ms n f args h p.2 (S p.1)
  |none=>uL lm ss ms n f args h
theorem abL(ss:List aX)(ms:List cr)(n f:Nat)(args:List AV)(h:ai)(eS:List Nat)(v:AV):ZD lm ss ms n f args h eS (some v)=some (v,if re v then h else kill h eS):=rfl
theorem Vx(ss:List aX)(ms:List cr)(n f:Nat)(args:List AV)(h:ai)(eS:List Nat):ZD lm ss ms n f args h eS none=uL lm ss ms n f args h:=rfl
theorem Ty(lm:List cr)(ss:List aX)(ms:List cr)(n f:Nat)(args:List AV)(h:ai)(bs:List AV)(eS:List Nat):YI S lm ss ms n f args h (some (bs,eS))=ZD lm ss ms n f args h eS (S bs):=rfl
theorem VI(lm:List cr)(ss:List aX)(ms:List cr)(n f:Nat)(args:List AV)(h:ai):YI S lm ss ms n f args h none=uL lm ss ms n f args h:=rfl
noncomputable def Gl(l:List aX)(lm:List cr)(ss:List aX)(ms:List cr)(n f:Nat)(args:List AV)(h:ai):Option (AV×ai):=YI (nd l f) lm ss ms n f args h (kY (jF h 0 8) args)
theorem Iv(n f:Nat)(args:List AV)(h:ai):aF (b9 ss ms) (n+1) f args h=Gl (uG (ss++sr) f) (qF ms f) ss ms n f args h:=by
  conv=>lhs;unfold aF
  have e:∀a,nd (uG (ss++sr) f) f a=(b9 ss ms).E3 f a:=λa=>y5 f a _
  have e1:pV (qF ms f) f=(b9 ss ms).HJ f:=funext λa=>funext λo=>zP f a o ms
  have e2:(b9 ss ms).fn f=E9 f:=rfl
  have key:fw ss ms n f args h=(match (b9 ss ms).fn f with
      |none=>none
      |some F=>
        match aH (aF (b9 ss ms) n) n F.code (args++List.replicate (F.ntmps-args.length) .undef) ⟨h.next,h.iF,h.next,h.next⟩ with
        |some (.exit _,_,_)=>none
        |some (_,fr,h')=>(jj fr h' F.results).map λvs=>finish F.gK h (oneOf vs) h'
        |none=>none):=by
    rw[e2];unfold fw
    cases E9 f with
    |none=>rfl
    |some F=>
      dsimp only;unfold jW
      cases aH (aF (b9 ss ms) n) n F.code (args++List.replicate (F.ntmps-args.length) .undef) ⟨h.next,h.iF,h.next,h.next⟩ with
      |none=>rfl
      |some r=>obtain⟨ex,fr,h'⟩:=r;cases ex<;>first|rfl|(dsimp only;cases jj fr h' F.results<;>rfl)
  have aei:uL (qF ms f) ss ms n f args h=(match pf ((b9 ss ms).HJ f) args h with
      |some r=>some r
      |none=>fw ss ms n f args h):=by
    unfold uL;rw[e1]
    cases pf ((b9 ss ms).HJ f) args h with
    |none=>rfl
    |some r=>rfl
  rw[key] at aei;unfold Gl
  cases hz:kY (jF h 0 8) args with
  |none=>rw[VI];exact aei.symm
  |some p=>
    obtain⟨rE,eS⟩:=p;rw[Ty];dsimp only[Option.bind];rw[e]
    cases hp:(b9 ss ms).E3 f rE with
    |none=>rw[Vx];exact aei.symm
    |some v=>rfl
theorem Qp(ss:List aX)(ms:List cr)(n f:Nat)(args:List AV)(h:ai):Gl [] lm ss ms n f args h=uL lm ss ms n f args h:=by
  unfold Gl
  cases kY (jF h 0 8) args with
  |none=>rfl
  |some p=>rfl
theorem Rz(ss:List aX)(ms:List cr)(n f:Nat)(args:List AV)(h:ai)(hf:s.f=f):Gl [s] lm ss ms n f args h=YI s.S lm ss ms n f args h (kY (jF h 0 8) args):=by
  unfold Gl
  have e:nd [s] f=s.S:=funext λa=>by simp only[nd,hf,if_true];cases s.S a<;>rfl
  rw[e]
theorem Q4(n f:Nat)(args:List AV)(h:ai):uL [] ss ms n f args h=fw ss ms n f args h:=by
  unfold uL;have e:pV [] f=λ_ _=>none:=rfl
  rw[e,EK];rfl
theorem RZ(m:cr)(ss:List aX)(ms:List cr)(n f:Nat)(args:List AV)(h:ai)(hf:m.f=f):uL [m] ss ms n f args h=moK ss ms n f args h (pf m.S args h):=by
  unfold uL
  have e:pV [m] f=m.S:=funext λa=>funext λo=>by simp only[pV,hf,if_true];cases m.S a o<;>rfl
  rw[e]
theorem ZX(n:Nat)(F:cn)(args:List AV)(h:ai)(hle:args.length<=F.ntmps):jW ss ms n F args h=
  match aH (aF (b9 ss ms) n) n F.code (FM F.ntmps (ya 0 args)) ⟨h.next,h.iF,h.next,h.next⟩ with
    |some (.exit _,_,_)=>none
    |some (_,fr,h')=>(match jj fr h' F.results with|some vs=>some (finish F.gK h (oneOf vs) h')|none=>none)
    |none=>none:=by
  rw[<-Is args hle];rfl
theorem acq(n:Nat)(args:List AV)(h:ai):fw ss ms n 14 args h=jW ss ms n c14 args h:=rfl
theorem Hl(n:Nat)(args:List AV)(h:ai):fw ss ms n 15 args h=jW ss ms n c15 args h:=rfl
theorem adO(n:Nat)(args:List AV)(h:ai):fw ss ms n 17 args h=jW ss ms n c17 args h:=rfl
theorem adS(n:Nat)(args:List AV)(h:ai):fw ss ms n 35 args h=jW ss ms n c35 args h:=rfl
theorem abA(n:Nat)(args:List AV)(h:ai):fw ss ms n 39 args h=jW ss ms n c39 args h:=rfl
theorem Tb(n:Nat)(args:List AV)(h:ai):fw ss ms n 42 args h=jW ss ms n c42 args h:=rfl
theorem abP(n:Nat)(args:List AV)(h:ai):fw ss ms n 43 args h=jW ss ms n c43 args h:=rfl
theorem Vr(n:Nat)(args:List AV)(h:ai):fw ss ms n 44 args h=jW ss ms n c44 args h:=rfl
theorem nB(n:Nat)(args:List AV)(h:ai):fw ss ms n 45 args h=jW ss ms n LW args h:=rfl
theorem acw(n:Nat)(args:List AV)(h:ai):fw ss ms n 68 args h=jW ss ms n c68 args h:=rfl
theorem HQ(n:Nat)(args:List AV)(h:ai):fw ss ms n 69 args h=jW ss ms n c69 args h:=rfl
theorem ado(n:Nat)(args:List AV)(h:ai):fw ss ms n 71 args h=jW ss ms n c71 args h:=rfl
theorem Hi(n:Nat)(args:List AV)(h:ai):fw ss ms n 72 args h=jW ss ms n c72 args h:=rfl
theorem ac2(n:Nat)(args:List AV)(h:ai):fw ss ms n 73 args h=jW ss ms n c73 args h:=rfl
theorem adX(n:Nat)(args:List AV)(h:ai):fw ss ms n 80 args h=jW ss ms n c80 args h:=rfl
theorem NW(n:Nat)(args:List AV)(h:ai):fw ss ms n 81 args h=jW ss ms n c81 args h:=rfl
theorem aci(n:Nat)(args:List AV)(h:ai):fw ss ms n 83 args h=jW ss ms n c83 args h:=rfl
theorem XG(n:Nat)(args:List AV)(h:ai):fw ss ms n 111 args h=jW ss ms n XI args h:=rfl
theorem iT(n:Nat)(args:List AV)(h:ai):fw ss ms n 112 args h=jW ss ms n rI args h:=rfl
theorem BT(n:Nat)(args:List AV)(h:ai):fw ss ms n 115 args h=jW ss ms n Nu args h:=rfl
theorem P3(n:Nat)(args:List AV)(h:ai):fw ss ms n 120 args h=jW ss ms n TF args h:=rfl
theorem vX(n:Nat)(args:List AV)(h:ai):fw ss ms n 121 args h=jW ss ms n HO args h:=rfl
theorem ym(n:Nat)(args:List AV)(h:ai):fw ss ms n 152 args h=jW ss ms n c152 args h:=rfl
theorem ZP(n:Nat)(args:List AV)(h:ai):fw ss ms n 153 args h=jW ss ms n Zd args h:=rfl
theorem Zk(n:Nat)(args:List AV)(h:ai):fw ss ms n 154 args h=jW ss ms n c154 args h:=rfl
theorem vj(n:Nat)(args:List AV)(h:ai):fw ss ms n 155 args h=jW ss ms n Hn args h:=rfl
theorem X2(n:Nat)(args:List AV)(h:ai):fw ss ms n 156 args h=jW ss ms n c156 args h:=rfl
theorem yU(n:Nat)(args:List AV)(h:ai):fw ss ms n 159 args h=jW ss ms n c159 args h:=rfl
theorem vl(n:Nat)(args:List AV)(h:ai):fw ss ms n 160 args h=jW ss ms n c160 args h:=rfl
theorem XU(n:Nat)(args:List AV)(h:ai):fw ss ms n 161 args h=jW ss ms n Xy args h:=rfl
theorem u7(n:Nat)(args:List AV)(h:ai):fw ss ms n 163 args h=jW ss ms n Hv args h:=rfl
theorem XF(n:Nat)(args:List AV)(h:ai):fw ss ms n 164 args h=jW ss ms n c164 args h:=rfl
theorem dX(n:Nat)(args:List AV)(h:ai):fw ss ms n 179 args h=jW ss ms n kv args h:=rfl
theorem iU(n:Nat)(args:List AV)(h:ai):fw ss ms n 181 args h=jW ss ms n rZ args h:=rfl
end Go.Proofs.YtjmeonoabiliiaaGreatDoor
