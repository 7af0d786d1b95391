import Derived.Test.YtjmeonoabiliiaaGreatDoorCode
import Derived.Test.YtjmeonoabiliiaaGreatDoorSz3
set_option linter.unusedVariables false
set_option linter.unusedSimpArgs false
set_option linter.unusedSectionVars false
set_option maxHeartbeats 16000000
set_option maxRecDepth 100000

namespace Go.Proofs.YtjmeonoabiliiaaGreatDoor
open Go Sz
set_option maxHeartbeats 4000000
def xF:Nat→Option ck
  | 4=>some c4
  | 12=>some c12
  | 13=>some S7
  | 14=>some Gk
  | 15=>some Ov
  | 16=>some Pw
  | 25=>some UD
  | 27=>some Ph
  | 28=>some c28
  | 29=>some Sm
  | 30=>some Sq
  | 32=>some SZ
  | 33=>some Uu
  | 38=>some Sp
  | 40=>some c40
  | 41=>some SW
  | 42=>some G3
  | 43=>some zf
  | 44=>some Ss
  | 45=>some Cz
  | 46=>some c46
  | 47=>some QD
  | 48=>some Tc
  | 52=>some UF
  | 53=>some c53
  | 54=>some Uz
  | 57=>some UE
  | 59=>some c59
  | 60=>some SX
  | 61=>some NW
  | 62=>some zt
  | 63=>some QA
  | 66=>some S2
  | 67=>some Uw
  | 70=>some c70
  | 71=>some Mi
  | 72=>some c72
  | 73=>some Ta
  | 74=>some SH
  | 75=>some c75
  | 76=>some c76
  | 77=>some Nv
  | 78=>some QF
  | 79=>some OC
  | 80=>some c80
  | 81=>some QB
  | 82=>some SP
  | 83=>some SU
  | 85=>some c85
  | 86=>some S4
  | 90=>some UA
  | 91=>some c91
  | 92=>some Ur
  | 93=>some c93
  | 95=>some Ux
  | 99=>some Uy
  | 101=>some DV
  | 102=>some BM
  | 103=>some G2
  | 104=>some H0
  | 105=>some c105
  | 106=>some LX
  | 108=>some Q8
  | 109=>some c109
  | 110=>some Sj
  | 116=>some c116
  | 117=>some c117
  | 118=>some xK
  | 119=>some c119
  | 120=>some ff
  | 121=>some Ae
  | 122=>some y8
  | 129=>some Rw
  | 144=>some Ri
  | 145=>some c145
  | 146=>some c146
  | 147=>some RD
  | 148=>some c148
  | 149=>some Q0
  | 150=>some Rp
  | 151=>some R4
  | 157=>some c157
  | 158=>some Ms
  | 159=>some c159
  | 160=>some c160
  | 161=>some nO
  | 162=>some c162
  | 163=>some zQ
  | 164=>some c164
  | 177=>some R5
  | 180=>some DJ
  | 181=>some mQ
  | 195=>some RB
  | _=>none
theorem Fy (f:Nat) (F:ck) (h:xF f=some F):cE Tryz.prog f F:=by
  unfold xF at h;split at h
  · cases h;exact UI
  · cases h;exact TU
  · cases h;exact Th
  · cases h;exact Tl
  · cases h;exact TS
  · cases h;exact TD
  · cases h;exact TG
  · cases h;exact Tk
  · cases h;exact TH
  · cases h;exact Tn
  · cases h;exact Ts
  · cases h;exact Tz
  · cases h;exact Ub
  · cases h;exact Um
  · cases h;exact Uc
  · cases h;exact TN
  · cases h;exact Ui
  · cases h;exact T5
  · cases h;exact T2
  · cases h;exact Tx
  · cases h;exact To
  · cases h;exact TM
  · cases h;exact TZ
  · cases h;exact Uk
  · cases h;exact Uf
  · cases h;exact TW
  · cases h;exact TP
  · cases h;exact T6
  · cases h;exact Tq
  · cases h;exact TJ
  · cases h;exact Tt
  · cases h;exact Up
  · cases h;exact T1
  · cases h;exact Ul
  · cases h;exact Tw
  · cases h;exact TI
  · cases h;exact TE
  · cases h;exact Ty
  · cases h;exact Uj
  · cases h;exact TY
  · cases h;exact Un
  · cases h;exact TL
  · cases h;exact T3
  · cases h;exact Tp
  · cases h;exact T9
  · cases h;exact Ue
  · cases h;exact Ug
  · cases h;exact TA
  · cases h;exact TQ
  · cases h;exact T4
  · cases h;exact Ti
  · cases h;exact Uo
  · cases h;exact Tg
  · cases h;exact TC
  · cases h;exact TB
  · cases h;exact Uh
  · cases h;exact RJ
  · cases h;exact R7
  · cases h;exact QS
  · cases h;exact R2
  · cases h;exact Ro
  · cases h;exact RY
  · cases h;exact SI
  · cases h;exact SL
  · cases h;exact RN
  · cases h;exact Rx
  · cases h;exact QR
  · cases h;exact QT
  · cases h;exact Sf
  · cases h;exact RP
  · cases h;exact Sc
  · cases h;exact SJ
  · cases h;exact Rb
  · cases h;exact Rz
  · cases h;exact Q3
  · cases h;exact SD
  · cases h;exact Rv
  · cases h;exact QM
  · cases h;exact QI
  · cases h;exact QX
  · cases h;exact Sb
  · cases h;exact RU
  · cases h;exact R0
  · cases h;exact SE
  · cases h;exact Q6
  · cases h;exact Sl
  · cases h;exact RR
  · cases h;exact SG
  · cases h;exact Q4
  · cases h;exact QH
  · cases h;exact Rq
  · cases h;exact Sd
  · cases h;exact Rn
  · cases h
theorem mixed:Tryz.prog.follows .mixedOrders=true:=by kernel_rfl
def qA (f:Nat):aR:=⟨f,fun | [.aw]=>some .aw | [.sl []]=>some .aw | _=>none⟩
theorem Ip (f:Nat):(qA f).f=f:=(rfl)
theorem Cv (f:Nat):(qA f).S [.aw]=some .aw:=rfl
theorem Dh (f:Nat):(qA f).S [.sl []]=some .aw:=rfl
theorem HF (f:Nat) {xs:List AV} (h:xs≠[]):(qA f).S [.sl xs]=none:=by
  cases xs with
  | nil=>exact absurd rfl h
  | cons x r=>rfl
theorem HU {f:Nat} (hc:zD Tryz.prog f):bC Tryz.prog (qA f):=fun args v hv=>by
  have key:∀x,x=AV.aw∨x=.sl []→args=[x]→v=.aw→Ij Tryz.prog f args v:=fun x hx ha h2=>by
    subst ha h2;exact oX (h':=h0) rfl (by rcases hx with rfl | rfl<;>rfl) fun φ w cargs hr hG ha=>.inl (DT mixed hc hx hr hG ha)
  unfold qA at hv;dsimp only at hv;split at hv
  · cases hv;exact key _ (.inl rfl) rfl rfl
  · cases hv;exact key _ (.inr rfl) rfl rfl
  · cases hv
def ny:List aR:=[qA 86]
theorem xZ:∀s ∈ ny,bC Tryz.prog s:=by
  intro s hs;simp only[ny,List.mem_cons,List.not_mem_nil,or_false] at hs;subst hs
  · exact HU M7
noncomputable def dP (ss:List aR):Env:=E4 xF (ss++ny)
theorem mI {X:World→Prop} {ss:List aR} (hs:∀s ∈ ss,eK Tryz.prog X s):bW Tryz.prog X (dP ss):=
  Bz mixed Fy fun s h=>by
    rcases List.mem_append.1 h with h | h
    · exact hs s h
    · exact (xZ s h).lift
theorem b8 {ss:List aR} (hs:∀s ∈ ss,bC Tryz.prog s):NV Tryz.prog (dP ss):=mI hs
noncomputable def lh (ss:List aR) (n:Nat) (F:ck) (args:List AV) (h:aa):Option (AV×aa):=
  match aT (au (dP ss) n) n F.code (args++List.replicate (F.ntmps - args.length) .undef) ⟨h.next,h.fi,h.next,h.next⟩ with
    | some (.exit _,_,_)=>none
    | some (_,fr,h')=>(match fO fr h' F.results with | some vs=>some (finish F.eI h (oneOf vs) h') | none=>none)
    | none=>none
noncomputable def eo (ss:List aR) (n f:Nat) (args:List AV) (h:aa):Option (AV×aa):=
  match xF f with
  | none=>none
  | some F=>lh ss n F args h
noncomputable def wk (l ss:List aR) (n f:Nat) (args:List AV) (h:aa):Option (AV×aa):=
  match ik (hO h 0 8) args with
  | some (args',ids)=>(match jx l f args' with | some v=>some (v,if mc v then h else kill h ids) | none=>eo ss n f args h)
  | none=>eo ss n f args h
theorem AB (ss:List aR) (n f:Nat) (args:List AV) (h:aa):au (dP ss) (n+1) f args h=wk (ob (ss++ny) f) ss n f args h:=by
  conv=>lhs;unfold au
  have hmeth:kT ((dP ss).zb f) args h=none:=vR args h;rw[hmeth];unfold wk;have e:∀a,jx (ob (ss++ny) f) f a=(dP ss).xG f a:=fun a=>sG f a _
  have e2:(dP ss).fn f=xF f:=rfl
  have key:eo ss n f args h=(match (dP ss).fn f with
      | none=>none
      | some F=>
        match aT (au (dP ss) n) n F.code (args++List.replicate (F.ntmps - args.length) .undef) ⟨h.next,h.fi,h.next,h.next⟩ with
        | some (.exit _,_,_)=>none
        | some (_,fr,h')=>(fO fr h' F.results).map fun vs=>finish F.eI h (oneOf vs) h'
        | none=>none):=by
    rw[e2];unfold eo
    cases xF f with
    | none=>rfl
    | some F=>
      dsimp only;unfold lh
      cases aT (au (dP ss) n) n F.code (args++List.replicate (F.ntmps - args.length) .undef) ⟨h.next,h.fi,h.next,h.next⟩ with
      | none=>rfl
      | some r=>
        obtain⟨ex,fr,h'⟩:=r;cases ex<;>first | rfl | (dsimp only;cases fO fr h' F.results<;>rfl)
  cases hz:ik (hO h 0 8) args with
  | none=>exact key.symm
  | some p=>
    obtain⟨args',ids⟩:=p;dsimp only[Option.bind];rw[e]
    cases hp:(dP ss).xG f args' with
    | none=>exact key.symm
    | some v=>rfl
theorem G0 (ss:List aR) (n f:Nat) (args:List AV) (h:aa):wk [] ss n f args h=eo ss n f args h:=by
  unfold wk;split
  · rfl
  · rfl
theorem G9 (s:aR) (ss:List aR) (n f:Nat) (args:List AV) (h:aa) (hf:s.f=f):wk [s] ss n f args h=match ik (hO h 0 8) args with
  | some (args',ids)=>(match s.S args' with | some v=>some (v,if mc v then h else kill h ids) | none=>eo ss n f args h)
  | none=>eo ss n f args h:=by
  unfold wk;split
  · simp only[jx,hf,if_true]
    split
    · rename_i h1
      split at h1
      · rename_i h2;cases h1;rw[h2]
      · cases h1
    · rename_i h1
      split at h1
      · cases h1
      · rename_i h2;rw[h2]
  · rfl
noncomputable def Tf (ss:List aR) (n f:Nat) (args:List AV) (h:aa) (ids:List Nat):Option AV→Option (AV×aa)
  | some v=>some (v,if mc v then h else kill h ids)
  | none=>eo ss n f args h
noncomputable def TF (s:aR) (ss:List aR) (n f:Nat) (args:List AV) (h:aa):Option (List AV×List Nat)→Option (AV×aa)
  | some p=>Tf ss n f args h p.2 (s.S p.1)
  | none=>eo ss n f args h
theorem QV (ss:List aR) (n f:Nat) (args:List AV) (h:aa) (ids:List Nat) (v:AV):Tf ss n f args h ids (some v)=some (v,if mc v then h else kill h ids):=rfl
theorem Sh (ss:List aR) (n f:Nat) (args:List AV) (h:aa) (ids:List Nat):Tf ss n f args h ids none=eo ss n f args h:=rfl
theorem SC (s:aR) (ss:List aR) (n f:Nat) (args:List AV) (h:aa) (bs:List AV) (ids:List Nat):TF s ss n f args h (some (bs,ids))=Tf ss n f args h ids (s.S bs):=rfl
theorem QU (s:aR) (ss:List aR) (n f:Nat) (args:List AV) (h:aa):TF s ss n f args h none=eo ss n f args h:=rfl
theorem DE (s:aR) (ss:List aR) (n f:Nat) (args:List AV) (h:aa) (hf:s.f=f):wk [s] ss n f args h=TF s ss n f args h (ik (hO h 0 8) args):=by
  rw[G9 s ss n f args h hf];rcases ik (hO h 0 8) args with _ | ⟨bs,ids⟩
  · rfl
  · rfl
theorem PY (ss:List aR) (n:Nat) (F:ck) (args:List AV) (h:aa) (hle:args.length≤F.ntmps):lh ss n F args h=
  match aT (au (dP ss) n) n F.code (FM F.ntmps (rI 0 args)) ⟨h.next,h.fi,h.next,h.next⟩ with
    | some (.exit _,_,_)=>none
    | some (_,fr,h')=>(match fO fr h' F.results with | some vs=>some (finish F.eI h (oneOf vs) h') | none=>none)
    | none=>none:=by
  rw[←Ag args hle];rfl
theorem Md (ss:List aR) (n:Nat) (args:List AV) (h:aa):eo ss n 4 args h=lh ss n c4 args h:=rfl
theorem RH (ss:List aR) (n:Nat) (args:List AV) (h:aa):eo ss n 13 args h=lh ss n S7 args h:=rfl
theorem FK (ss:List aR) (n:Nat) (args:List AV) (h:aa):eo ss n 16 args h=lh ss n Pw args h:=rfl
theorem ET (ss:List aR) (n:Nat) (args:List AV) (h:aa):eo ss n 27 args h=lh ss n Ph args h:=rfl
theorem QQ (ss:List aR) (n:Nat) (args:List AV) (h:aa):eo ss n 28 args h=lh ss n c28 args h:=rfl
theorem NI (ss:List aR) (n:Nat) (args:List AV) (h:aa):eo ss n 29 args h=lh ss n Sm args h:=rfl
theorem NJ (ss:List aR) (n:Nat) (args:List AV) (h:aa):eo ss n 30 args h=lh ss n Sq args h:=rfl
theorem Re (ss:List aR) (n:Nat) (args:List AV) (h:aa):eo ss n 32 args h=lh ss n SZ args h:=rfl
theorem NA (ss:List aR) (n:Nat) (args:List AV) (h:aa):eo ss n 38 args h=lh ss n Sp args h:=rfl
theorem RE (ss:List aR) (n:Nat) (args:List AV) (h:aa):eo ss n 41 args h=lh ss n SW args h:=rfl
theorem Bs (ss:List aR) (n:Nat) (args:List AV) (h:aa):eo ss n 46 args h=lh ss n c46 args h:=rfl
theorem I2 (ss:List aR) (n:Nat) (args:List AV) (h:aa):eo ss n 47 args h=lh ss n QD args h:=rfl
theorem R6 (ss:List aR) (n:Nat) (args:List AV) (h:aa):eo ss n 48 args h=lh ss n Tc args h:=rfl
theorem Ny (ss:List aR) (n:Nat) (args:List AV) (h:aa):eo ss n 59 args h=lh ss n c59 args h:=rfl
theorem Q2 (ss:List aR) (n:Nat) (args:List AV) (h:aa):eo ss n 60 args h=lh ss n SX args h:=rfl
theorem FO (ss:List aR) (n:Nat) (args:List AV) (h:aa):eo ss n 61 args h=lh ss n NW args h:=rfl
theorem kz (ss:List aR) (n:Nat) (args:List AV) (h:aa):eo ss n 62 args h=lh ss n zt args h:=rfl
theorem Fz (ss:List aR) (n:Nat) (args:List AV) (h:aa):eo ss n 63 args h=lh ss n QA args h:=rfl
theorem SB (ss:List aR) (n:Nat) (args:List AV) (h:aa):eo ss n 66 args h=lh ss n S2 args h:=rfl
theorem FN (ss:List aR) (n:Nat) (args:List AV) (h:aa):eo ss n 70 args h=lh ss n c70 args h:=rfl
theorem Ns (ss:List aR) (n:Nat) (args:List AV) (h:aa):eo ss n 74 args h=lh ss n SH args h:=rfl
theorem JZ (ss:List aR) (n:Nat) (args:List AV) (h:aa):eo ss n 75 args h=lh ss n c75 args h:=rfl
theorem R8 (ss:List aR) (n:Nat) (args:List AV) (h:aa):eo ss n 76 args h=lh ss n c76 args h:=rfl
theorem Bp (ss:List aR) (n:Nat) (args:List AV) (h:aa):eo ss n 77 args h=lh ss n Nv args h:=rfl
theorem JR (ss:List aR) (n:Nat) (args:List AV) (h:aa):eo ss n 78 args h=lh ss n QF args h:=rfl
theorem F0 (ss:List aR) (n:Nat) (args:List AV) (h:aa):eo ss n 79 args h=lh ss n OC args h:=rfl
theorem RX (ss:List aR) (n:Nat) (args:List AV) (h:aa):eo ss n 82 args h=lh ss n SP args h:=rfl
theorem Fj (ss:List aR) (n:Nat) (args:List AV) (h:aa):eo ss n 85 args h=lh ss n c85 args h:=rfl
theorem QW (ss:List aR) (n:Nat) (args:List AV) (h:aa):eo ss n 86 args h=lh ss n S4 args h:=rfl
theorem zP (ss:List aR) (n:Nat) (args:List AV) (h:aa):eo ss n 101 args h=lh ss n DV args h:=rfl
theorem vP (ss:List aR) (n:Nat) (args:List AV) (h:aa):eo ss n 102 args h=lh ss n BM args h:=rfl
theorem DQ (ss:List aR) (n:Nat) (args:List AV) (h:aa):eo ss n 103 args h=lh ss n G2 args h:=rfl
theorem CV (ss:List aR) (n:Nat) (args:List AV) (h:aa):eo ss n 104 args h=lh ss n H0 args h:=rfl
theorem Om (ss:List aR) (n:Nat) (args:List AV) (h:aa):eo ss n 105 args h=lh ss n c105 args h:=rfl
theorem PC (ss:List aR) (n:Nat) (args:List AV) (h:aa):eo ss n 106 args h=lh ss n LX args h:=rfl
theorem Qb (ss:List aR) (n:Nat) (args:List AV) (h:aa):eo ss n 116 args h=lh ss n c116 args h:=rfl
theorem PH (ss:List aR) (n:Nat) (args:List AV) (h:aa):eo ss n 117 args h=lh ss n c117 args h:=rfl
theorem qm (ss:List aR) (n:Nat) (args:List AV) (h:aa):eo ss n 118 args h=lh ss n xK args h:=rfl
theorem Is (ss:List aR) (n:Nat) (args:List AV) (h:aa):eo ss n 119 args h=lh ss n c119 args h:=rfl
theorem tw (ss:List aR) (n:Nat) (args:List AV) (h:aa):eo ss n 122 args h=lh ss n y8 args h:=rfl
theorem Ab (ss:List aR) (n:Nat) (args:List AV) (h:aa):eo ss n 157 args h=lh ss n c157 args h:=rfl
theorem N9 (ss:List aR) (n:Nat) (args:List AV) (h:aa):eo ss n 158 args h=lh ss n Ms args h:=rfl
theorem C3 (ss:List aR) (n:Nat) (args:List AV) (h:aa):eo ss n 162 args h=lh ss n c162 args h:=rfl
theorem zB (ss:List aR) (n:Nat) (args:List AV) (h:aa):eo ss n 180 args h=lh ss n DJ args h:=rfl
noncomputable def bj (ss:List aR) (ms:List bL):Env:=Kb xF (ss++ny) ms
theorem eW {X:World→Prop} {ss:List aR} (hs:∀s ∈ ss,eK Tryz.prog X s) {ms:List bL} (hm:∀m ∈ ms,dk Tryz.prog X m):bW Tryz.prog X (bj ss ms):=
  GU mixed Fy (fun s h=>by
    rcases List.mem_append.1 h with h | h
    · exact hs s h
    · exact (xZ s h).lift) hm
theorem sC {ss:List aR} (hs:∀s ∈ ss,bC Tryz.prog s) {ms:List bL} (hm:∀m ∈ ms,jT Tryz.prog m):NV Tryz.prog (bj ss ms):=eW hs hm
noncomputable def kR (ss:List aR) (ms:List bL) (n:Nat) (F:ck) (args:List AV) (h:aa):Option (AV×aa):=
  match aT (au (bj ss ms) n) n F.code (args++List.replicate (F.ntmps - args.length) .undef) ⟨h.next,h.fi,h.next,h.next⟩ with
    | some (.exit _,_,_)=>none
    | some (_,fr,h')=>(match fO fr h' F.results with | some vs=>some (finish F.eI h (oneOf vs) h') | none=>none)
    | none=>none
noncomputable def fS (ss:List aR) (ms:List bL) (n f:Nat) (args:List AV) (h:aa):Option (AV×aa):=
  match xF f with
  | none=>none
  | some F=>kR ss ms n F args h
noncomputable def S6 (ss:List aR) (ms:List bL) (n f:Nat) (args:List AV) (h:aa):Option (AV×aa)→Option (AV×aa)
  | some r=>some r
  | none=>fS ss ms n f args h
theorem Sg (ss:List aR) (ms:List bL) (n f:Nat) (args:List AV) (h:aa) (r:AV×aa):S6 ss ms n f args h (some r)=some r:=rfl
theorem SK (ss:List aR) (ms:List bL) (n f:Nat) (args:List AV) (h:aa):S6 ss ms n f args h none=fS ss ms n f args h:=rfl
noncomputable def oJ (lm:List bL) (ss:List aR) (ms:List bL) (n f:Nat) (args:List AV) (h:aa):Option (AV×aa):=S6 ss ms n f args h (kT (lF lm f) args h)
noncomputable def Lu (lm:List bL) (ss:List aR) (ms:List bL) (n f:Nat) (args:List AV) (h:aa) (ids:List Nat):Option AV→Option (AV×aa)
  | some v=>some (v,if mc v then h else kill h ids)
  | none=>oJ lm ss ms n f args h
noncomputable def MB (S:List AV→Option AV) (lm:List bL) (ss:List aR) (ms:List bL) (n f:Nat) (args:List AV) (h:aa):Option (List AV×List Nat)→Option (AV×aa)
  | some p=>Lu lm ss ms n f args h p.2 (S p.1)
  | none=>oJ lm ss ms n f args h
theorem Pv (lm:List bL) (ss:List aR) (ms:List bL) (n f:Nat) (args:List AV) (h:aa) (ids:List Nat) (v:AV):Lu lm ss ms n f args h ids (some v)=some (v,if mc v then h else kill h ids):=rfl
theorem IH (lm:List bL) (ss:List aR) (ms:List bL) (n f:Nat) (args:List AV) (h:aa) (ids:List Nat):Lu lm ss ms n f args h ids none=oJ lm ss ms n f args h:=rfl
theorem Kl (S:List AV→Option AV) (lm:List bL) (ss:List aR) (ms:List bL) (n f:Nat) (args:List AV) (h:aa) (bs:List AV) (ids:List Nat):MB S lm ss ms n f args h (some (bs,ids))=Lu lm ss ms n f args h ids (S bs):=rfl
theorem Ih (S:List AV→Option AV) (lm:List bL) (ss:List aR) (ms:List bL) (n f:Nat) (args:List AV) (h:aa):MB S lm ss ms n f args h none=oJ lm ss ms n f args h:=rfl
noncomputable def yY (l:List aR) (lm:List bL) (ss:List aR) (ms:List bL) (n f:Nat) (args:List AV) (h:aa):Option (AV×aa):=MB (jx l f) lm ss ms n f args h (ik (hO h 0 8) args)
theorem Ah (ss:List aR) (ms:List bL) (n f:Nat) (args:List AV) (h:aa):au (bj ss ms) (n+1) f args h=yY (ob (ss++ny) f) (lV ms f) ss ms n f args h:=by
  conv=>lhs;unfold au
  have e:∀a,jx (ob (ss++ny) f) f a=(bj ss ms).xG f a:=fun a=>sG f a _
  have e1:lF (lV ms f) f=(bj ss ms).zb f:=funext fun a=>funext fun o=>tt f a o ms
  have e2:(bj ss ms).fn f=xF f:=rfl
  have key:fS ss ms n f args h=(match (bj ss ms).fn f with
      | none=>none
      | some F=>
        match aT (au (bj ss ms) n) n F.code (args++List.replicate (F.ntmps - args.length) .undef) ⟨h.next,h.fi,h.next,h.next⟩ with
        | some (.exit _,_,_)=>none
        | some (_,fr,h')=>(fO fr h' F.results).map fun vs=>finish F.eI h (oneOf vs) h'
        | none=>none):=by
    rw[e2];unfold fS
    cases xF f with
    | none=>rfl
    | some F=>
      dsimp only;unfold kR
      cases aT (au (bj ss ms) n) n F.code (args++List.replicate (F.ntmps - args.length) .undef) ⟨h.next,h.fi,h.next,h.next⟩ with
      | none=>rfl
      | some r=>
        obtain⟨ex,fr,h'⟩:=r;cases ex<;>first | rfl | (dsimp only;cases fO fr h' F.results<;>rfl)
  have key2:oJ (lV ms f) ss ms n f args h=(match kT ((bj ss ms).zb f) args h with
      | some r=>some r
      | none=>fS ss ms n f args h):=by
    unfold oJ;rw[e1]
    cases kT ((bj ss ms).zb f) args h with
    | none=>rfl
    | some r=>rfl
  rw[key] at key2;unfold yY
  cases hz:ik (hO h 0 8) args with
  | none=>rw[Ih];exact key2.symm
  | some p=>
    obtain⟨args',ids⟩:=p;rw[Kl];dsimp only[Option.bind];rw[e]
    cases hp:(bj ss ms).xG f args' with
    | none=>rw[IH];exact key2.symm
    | some v=>rfl
theorem Gj (lm:List bL) (ss:List aR) (ms:List bL) (n f:Nat) (args:List AV) (h:aa):yY [] lm ss ms n f args h=oJ lm ss ms n f args h:=by
  unfold yY
  cases ik (hO h 0 8) args with
  | none=>rfl
  | some p=>rfl
theorem F8 (s:aR) (lm:List bL) (ss:List aR) (ms:List bL) (n f:Nat) (args:List AV) (h:aa) (hf:s.f=f):yY [s] lm ss ms n f args h=MB s.S lm ss ms n f args h (ik (hO h 0 8) args):=by
  unfold yY
  have e:jx [s] f=s.S:=funext fun a=>by
    simp only[jx,hf,if_true];cases s.S a<;>rfl
  rw[e]
theorem H2 (ss:List aR) (ms:List bL) (n f:Nat) (args:List AV) (h:aa):oJ [] ss ms n f args h=fS ss ms n f args h:=by
  unfold oJ;have e:lF [] f=fun _ _=>none:=rfl
  rw[e,vR];rfl
theorem H5 (m:bL) (ss:List aR) (ms:List bL) (n f:Nat) (args:List AV) (h:aa) (hf:m.f=f):oJ [m] ss ms n f args h=S6 ss ms n f args h (kT m.S args h):=by
  unfold oJ
  have e:lF [m] f=m.S:=funext fun a=>funext fun o=>by
    simp only[lF,hf,if_true];cases m.S a o<;>rfl
  rw[e]
theorem L1 (ss:List aR) (ms:List bL) (n:Nat) (F:ck) (args:List AV) (h:aa) (hle:args.length≤F.ntmps):kR ss ms n F args h=
  match aT (au (bj ss ms) n) n F.code (FM F.ntmps (rI 0 args)) ⟨h.next,h.fi,h.next,h.next⟩ with
    | some (.exit _,_,_)=>none
    | some (_,fr,h')=>(match fO fr h' F.results with | some vs=>some (finish F.eI h (oneOf vs) h') | none=>none)
    | none=>none:=by
  rw[←Ag args hle];rfl
theorem lS (ss:List aR) (ms:List bL) (n:Nat) (args:List AV) (h:aa):fS ss ms n 14 args h=kR ss ms n Gk args h:=rfl
theorem zG (ss:List aR) (ms:List bL) (n:Nat) (args:List AV) (h:aa):fS ss ms n 15 args h=kR ss ms n Ov args h:=rfl
theorem lP (ss:List aR) (ms:List bL) (n:Nat) (args:List AV) (h:aa):fS ss ms n 42 args h=kR ss ms n G3 args h:=rfl
theorem ie (ss:List aR) (ms:List bL) (n:Nat) (args:List AV) (h:aa):fS ss ms n 43 args h=kR ss ms n zf args h:=rfl
theorem Kw (ss:List aR) (ms:List bL) (n:Nat) (args:List AV) (h:aa):fS ss ms n 44 args h=kR ss ms n Ss args h:=rfl
theorem jI (ss:List aR) (ms:List bL) (n:Nat) (args:List AV) (h:aa):fS ss ms n 45 args h=kR ss ms n Cz args h:=rfl
theorem uj (ss:List aR) (ms:List bL) (n:Nat) (args:List AV) (h:aa):fS ss ms n 71 args h=kR ss ms n Mi args h:=rfl
theorem zR (ss:List aR) (ms:List bL) (n:Nat) (args:List AV) (h:aa):fS ss ms n 72 args h=kR ss ms n c72 args h:=rfl
theorem Oe (ss:List aR) (ms:List bL) (n:Nat) (args:List AV) (h:aa):fS ss ms n 73 args h=kR ss ms n Ta args h:=rfl
theorem Db (ss:List aR) (ms:List bL) (n:Nat) (args:List AV) (h:aa):fS ss ms n 80 args h=kR ss ms n c80 args h:=rfl
theorem Dw (ss:List aR) (ms:List bL) (n:Nat) (args:List AV) (h:aa):fS ss ms n 81 args h=kR ss ms n QB args h:=rfl
theorem Qh (ss:List aR) (ms:List bL) (n:Nat) (args:List AV) (h:aa):fS ss ms n 83 args h=kR ss ms n SU args h:=rfl
theorem ca (ss:List aR) (ms:List bL) (n:Nat) (args:List AV) (h:aa):fS ss ms n 120 args h=kR ss ms n ff args h:=rfl
theorem o9 (ss:List aR) (ms:List bL) (n:Nat) (args:List AV) (h:aa):fS ss ms n 121 args h=kR ss ms n Ae args h:=rfl
theorem r7 (ss:List aR) (ms:List bL) (n:Nat) (args:List AV) (h:aa):fS ss ms n 159 args h=kR ss ms n c159 args h:=rfl
theorem o6 (ss:List aR) (ms:List bL) (n:Nat) (args:List AV) (h:aa):fS ss ms n 160 args h=kR ss ms n c160 args h:=rfl
theorem gw (ss:List aR) (ms:List bL) (n:Nat) (args:List AV) (h:aa):fS ss ms n 161 args h=kR ss ms n nO args h:=rfl
theorem px (ss:List aR) (ms:List bL) (n:Nat) (args:List AV) (h:aa):fS ss ms n 163 args h=kR ss ms n zQ args h:=rfl
theorem jo (ss:List aR) (ms:List bL) (n:Nat) (args:List AV) (h:aa):fS ss ms n 164 args h=kR ss ms n c164 args h:=rfl
theorem fB (ss:List aR) (ms:List bL) (n:Nat) (args:List AV) (h:aa):fS ss ms n 181 args h=kR ss ms n mQ args h:=rfl
end Go.Proofs.YtjmeonoabiliiaaGreatDoor
