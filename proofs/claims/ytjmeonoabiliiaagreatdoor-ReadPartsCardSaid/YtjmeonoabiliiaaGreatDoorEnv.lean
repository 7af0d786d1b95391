import Derived.Test.YtjmeonoabiliiaaGreatDoorCode
import Derived.Test.YtjmeonoabiliiaaGreatDoorSz3
set_option linter.unusedVariables false
set_option linter.unusedSimpArgs false
set_option linter.unusedSectionVars false
set_option maxHeartbeats 16000000
set_option maxRecDepth 100000

namespace Go.Proofs.YtjmeonoabiliiaaGreatDoor
open Go Sz
set_option maxHeartbeats 4000000
def xK:Nat→Option cp
  | 5=>some c5
  | 12=>some c12
  | 13=>some Tk
  | 14=>some Hu
  | 15=>some Oj
  | 16=>some OL
  | 17=>some NX
  | 25=>some UP
  | 27=>some OX
  | 28=>some c28
  | 29=>some R6
  | 30=>some SY
  | 32=>some Td
  | 33=>some UW
  | 38=>some RF
  | 40=>some c40
  | 41=>some Tl
  | 42=>some AG
  | 43=>some zw
  | 44=>some RZ
  | 45=>some C4
  | 46=>some c46
  | 47=>some QW
  | 48=>some TA
  | 52=>some US
  | 53=>some c53
  | 54=>some UZ
  | 57=>some UO
  | 59=>some c59
  | 60=>some Tv
  | 61=>some Px
  | 62=>some z6
  | 63=>some QJ
  | 66=>some Ts
  | 67=>some UU
  | 70=>some c70
  | 71=>some Mq
  | 72=>some c72
  | 73=>some Tw
  | 74=>some Rp
  | 75=>some c75
  | 76=>some c76
  | 77=>some Of
  | 78=>some QY
  | 79=>some Qc
  | 80=>some c80
  | 81=>some QT
  | 82=>some Tf
  | 83=>some Ty
  | 85=>some c85
  | 86=>some Th
  | 90=>some UT
  | 91=>some c91
  | 92=>some UM
  | 93=>some c93
  | 95=>some UY
  | 99=>some UQ
  | 101=>some DQ
  | 102=>some Bt
  | 103=>some G9
  | 104=>some HY
  | 105=>some c105
  | 106=>some LL
  | 108=>some S0
  | 109=>some c109
  | 110=>some SN
  | 116=>some c116
  | 117=>some c117
  | 118=>some xW
  | 119=>some c119
  | 120=>some ft
  | 121=>some Am
  | 122=>some Ag
  | 129=>some Re
  | 144=>some RM
  | 145=>some c145
  | 146=>some c146
  | 147=>some S6
  | 148=>some c148
  | 149=>some SK
  | 150=>some Rj
  | 151=>some Q8
  | 157=>some c157
  | 158=>some M0
  | 159=>some c159
  | 160=>some c160
  | 161=>some oH
  | 162=>some c162
  | 163=>some Aq
  | 164=>some c164
  | 177=>some Su
  | 180=>some DA
  | 181=>some nf
  | 195=>some Rc
  | _=>none
theorem FF (f:Nat) (F:cp) (h:xK f=some F):cK Tryz.prog f F:=by
  unfold xK at h;split at h
  · cases h;exact U1
  · cases h;exact TV
  · cases h;exact Uf
  · cases h;exact TS
  · cases h;exact T9
  · cases h;exact Uo
  · cases h;exact Ug
  · cases h;exact Un
  · cases h;exact TP
  · cases h;exact TN
  · cases h;exact T4
  · cases h;exact TB
  · cases h;exact UJ
  · cases h;exact TI
  · cases h;exact T6
  · cases h;exact TF
  · cases h;exact Uv
  · cases h;exact Us
  · cases h;exact Ud
  · cases h;exact UE
  · cases h;exact TW
  · cases h;exact TK
  · cases h;exact TZ
  · cases h;exact TH
  · cases h;exact UD
  · cases h;exact TJ
  · cases h;exact T3
  · cases h;exact UK
  · cases h;exact Uk
  · cases h;exact T2
  · cases h;exact TX
  · cases h;exact T8
  · cases h;exact Up
  · cases h;exact TT
  · cases h;exact TY
  · cases h;exact TR
  · cases h;exact UI
  · cases h;exact UH
  · cases h;exact Uc
  · cases h;exact T7
  · cases h;exact Ux
  · cases h;exact TC
  · cases h;exact TU
  · cases h;exact Ub
  · cases h;exact Uw
  · cases h;exact T5
  · cases h;exact Ui
  · cases h;exact Uh
  · cases h;exact Uj
  · cases h;exact UG
  · cases h;exact Ur
  · cases h;exact TD
  · cases h;exact Uq
  · cases h;exact UC
  · cases h;exact Uz
  · cases h;exact UF
  · cases h;exact T1
  · cases h;exact S2
  · cases h;exact SV
  · cases h;exact SF
  · cases h;exact RT
  · cases h;exact Rz
  · cases h;exact Sq
  · cases h;exact Rb
  · cases h;exact Rm
  · cases h;exact Sh
  · cases h;exact Sm
  · cases h;exact S5
  · cases h;exact Q3
  · cases h;exact SR
  · cases h;exact Sv
  · cases h;exact RU
  · cases h;exact Sb
  · cases h;exact SP
  · cases h;exact RB
  · cases h;exact Sn
  · cases h;exact Rt
  · cases h;exact RA
  · cases h;exact RN
  · cases h;exact RL
  · cases h;exact Rf
  · cases h;exact SI
  · cases h;exact Sl
  · cases h;exact So
  · cases h;exact Ru
  · cases h;exact SL
  · cases h;exact R0
  · cases h;exact S4
  · cases h;exact SB
  · cases h;exact Sr
  · cases h;exact Sa
  · cases h;exact Rh
  · cases h;exact SE
  · cases h;exact Rk
  · cases h
theorem mixed:Tryz.prog.follows .mixedOrders=true:=by kernel_rfl
def qE (f:Nat):aS:=⟨f,fun | [.aA]=>some .aA | [.sl []]=>some .aA | _=>none⟩
theorem Ll (f:Nat):(qE f).f=f:=(rfl)
theorem CI (f:Nat):(qE f).S [.aA]=some .aA:=rfl
theorem DZ (f:Nat):(qE f).S [.sl []]=some .aA:=rfl
theorem Ir (f:Nat) {xs:List AV} (h:xs≠[]):(qE f).S [.sl xs]=none:=by
  cases xs with
  | nil=>exact absurd rfl h
  | cons x r=>rfl
theorem Hj {f:Nat} (hc:Ab Tryz.prog f):bC Tryz.prog (qE f):=fun args v hv=>by
  have key:∀x,x=AV.aA∨x=.sl []→args=[x]→v=.aA→KP Tryz.prog f args v:=fun x hx ha h2=>by
    subst ha h2;exact py (h':=h0) rfl (by rcases hx with rfl | rfl<;>rfl) fun φ w cargs hr hG ha=>.inl (D7 mixed hc hx hr hG ha)
  unfold qE at hv;dsimp only at hv;split at hv
  · cases hv;exact key _ (.inl rfl) rfl rfl
  · cases hv;exact key _ (.inr rfl) rfl rfl
  · cases hv
def nj:List aS:=[qE 86]
theorem ya:∀s ∈ nj,bC Tryz.prog s:=by
  intro s hs;simp only[nj,List.mem_cons,List.not_mem_nil,or_false] at hs;subst hs
  · exact Hj NI
noncomputable def ew (ss:List aS):Env:=F1 xK (ss++nj)
theorem mA {X:World→Prop} {ss:List aS} (hs:∀s ∈ ss,eR Tryz.prog X s):b8 Tryz.prog X (ew ss):=
  BJ mixed FF fun s h=>by
    rcases List.mem_append.1 h with h | h
    · exact hs s h
    · exact (ya s h).lift
theorem cf {ss:List aS} (hs:∀s ∈ ss,bC Tryz.prog s):Ob Tryz.prog (ew ss):=mA hs
noncomputable def lD (ss:List aS) (n:Nat) (F:cp) (args:List AV) (h:aa):Option (AV×aa):=
  match aT (az (ew ss) n) n F.code (args++List.replicate (F.ntmps - args.length) .undef) ⟨h.next,h.fv,h.next,h.next⟩ with
    | some (.exit _,_,_)=>none
    | some (_,fr,h')=>(match fT fr h' F.results with | some vs=>some (finish F.eX h (oneOf vs) h') | none=>none)
    | none=>none
noncomputable def eI (ss:List aS) (n f:Nat) (args:List AV) (h:aa):Option (AV×aa):=
  match xK f with
  | none=>none
  | some F=>lD ss n F args h
noncomputable def vH (l ss:List aS) (n f:Nat) (args:List AV) (h:aa):Option (AV×aa):=
  match ij (hZ h 0 8) args with
  | some (args',ids)=>(match jF l f args' with | some v=>some (v,if mQ v then h else kill h ids) | none=>eI ss n f args h)
  | none=>eI ss n f args h
theorem AN (ss:List aS) (n f:Nat) (args:List AV) (h:aa):az (ew ss) (n+1) f args h=vH (o7 (ss++nj) f) ss n f args h:=by
  conv=>lhs;unfold az
  have hmeth:lB ((ew ss).z8 f) args h=none:=w7 args h;rw[hmeth];unfold vH;have e:∀a,jF (o7 (ss++nj) f) f a=(ew ss).xS f a:=fun a=>r8 f a _
  have e2:(ew ss).fn f=xK f:=rfl
  have key:eI ss n f args h=(match (ew ss).fn f with
      | none=>none
      | some F=>
        match aT (az (ew ss) n) n F.code (args++List.replicate (F.ntmps - args.length) .undef) ⟨h.next,h.fv,h.next,h.next⟩ with
        | some (.exit _,_,_)=>none
        | some (_,fr,h')=>(fT fr h' F.results).map fun vs=>finish F.eX h (oneOf vs) h'
        | none=>none):=by
    rw[e2];unfold eI
    cases xK f with
    | none=>rfl
    | some F=>
      dsimp only;unfold lD
      cases aT (az (ew ss) n) n F.code (args++List.replicate (F.ntmps - args.length) .undef) ⟨h.next,h.fv,h.next,h.next⟩ with
      | none=>rfl
      | some r=>
        obtain⟨ex,fr,h'⟩:=r;cases ex<;>first | rfl | (dsimp only;cases fT fr h' F.results<;>rfl)
  cases hz:ij (hZ h 0 8) args with
  | none=>exact key.symm
  | some p=>
    obtain⟨args',ids⟩:=p;dsimp only[Option.bind];rw[e]
    cases hp:(ew ss).xS f args' with
    | none=>exact key.symm
    | some v=>rfl
theorem Il (ss:List aS) (n f:Nat) (args:List AV) (h:aa):vH [] ss n f args h=eI ss n f args h:=by
  unfold vH;split
  · rfl
  · rfl
theorem H8 (s:aS) (ss:List aS) (n f:Nat) (args:List AV) (h:aa) (hf:s.f=f):vH [s] ss n f args h=match ij (hZ h 0 8) args with
  | some (args',ids)=>(match s.S args' with | some v=>some (v,if mQ v then h else kill h ids) | none=>eI ss n f args h)
  | none=>eI ss n f args h:=by
  unfold vH;split
  · simp only[jF,hf,if_true]
    split
    · rename_i h1
      split at h1
      · rename_i h2;cases h1;rw[h2]
      · cases h1
    · rename_i h1
      split at h1
      · cases h1
      · rename_i h2;rw[h2]
  · rfl
noncomputable def Tz (ss:List aS) (n f:Nat) (args:List AV) (h:aa) (ids:List Nat):Option AV→Option (AV×aa)
  | some v=>some (v,if mQ v then h else kill h ids)
  | none=>eI ss n f args h
noncomputable def Uu (s:aS) (ss:List aS) (n f:Nat) (args:List AV) (h:aa):Option (List AV×List Nat)→Option (AV×aa)
  | some p=>Tz ss n f args h p.2 (s.S p.1)
  | none=>eI ss n f args h
theorem Ro (ss:List aS) (n f:Nat) (args:List AV) (h:aa) (ids:List Nat) (v:AV):Tz ss n f args h ids (some v)=some (v,if mQ v then h else kill h ids):=rfl
theorem Si (ss:List aS) (n f:Nat) (args:List AV) (h:aa) (ids:List Nat):Tz ss n f args h ids none=eI ss n f args h:=rfl
theorem S7 (s:aS) (ss:List aS) (n f:Nat) (args:List AV) (h:aa) (bs:List AV) (ids:List Nat):Uu s ss n f args h (some (bs,ids))=Tz ss n f args h ids (s.S bs):=rfl
theorem Sf (s:aS) (ss:List aS) (n f:Nat) (args:List AV) (h:aa):Uu s ss n f args h none=eI ss n f args h:=rfl
theorem DX (s:aS) (ss:List aS) (n f:Nat) (args:List AV) (h:aa) (hf:s.f=f):vH [s] ss n f args h=Uu s ss n f args h (ij (hZ h 0 8) args):=by
  rw[H8 s ss n f args h hf];rcases ij (hZ h 0 8) args with _ | ⟨bs,ids⟩
  · rfl
  · rfl
theorem P7 (ss:List aS) (n:Nat) (F:cp) (args:List AV) (h:aa) (hle:args.length≤F.ntmps):lD ss n F args h=
  match aT (az (ew ss) n) n F.code (FM F.ntmps (sw 0 args)) ⟨h.next,h.fv,h.next,h.next⟩ with
    | some (.exit _,_,_)=>none
    | some (_,fr,h')=>(match fT fr h' F.results with | some vs=>some (finish F.eX h (oneOf vs) h') | none=>none)
    | none=>none:=by
  rw[←Av args hle];rfl
theorem AF (ss:List aS) (n:Nat) (args:List AV) (h:aa):eI ss n 5 args h=lD ss n c5 args h:=rfl
theorem SG (ss:List aS) (n:Nat) (args:List AV) (h:aa):eI ss n 13 args h=lD ss n Tk args h:=rfl
theorem Gp (ss:List aS) (n:Nat) (args:List AV) (h:aa):eI ss n 16 args h=lD ss n OL args h:=rfl
theorem E9 (ss:List aS) (n:Nat) (args:List AV) (h:aa):eI ss n 27 args h=lD ss n OX args h:=rfl
theorem RE (ss:List aS) (n:Nat) (args:List AV) (h:aa):eI ss n 28 args h=lD ss n c28 args h:=rfl
theorem NT (ss:List aS) (n:Nat) (args:List AV) (h:aa):eI ss n 29 args h=lD ss n R6 args h:=rfl
theorem NZ (ss:List aS) (n:Nat) (args:List AV) (h:aa):eI ss n 30 args h=lD ss n SY args h:=rfl
theorem RH (ss:List aS) (n:Nat) (args:List AV) (h:aa):eI ss n 32 args h=lD ss n Td args h:=rfl
theorem N2 (ss:List aS) (n:Nat) (args:List AV) (h:aa):eI ss n 38 args h=lD ss n RF args h:=rfl
theorem Rl (ss:List aS) (n:Nat) (args:List AV) (h:aa):eI ss n 41 args h=lD ss n Tl args h:=rfl
theorem Cq (ss:List aS) (n:Nat) (args:List AV) (h:aa):eI ss n 46 args h=lD ss n c46 args h:=rfl
theorem KD (ss:List aS) (n:Nat) (args:List AV) (h:aa):eI ss n 47 args h=lD ss n QW args h:=rfl
theorem Se (ss:List aS) (n:Nat) (args:List AV) (h:aa):eI ss n 48 args h=lD ss n TA args h:=rfl
theorem N6 (ss:List aS) (n:Nat) (args:List AV) (h:aa):eI ss n 59 args h=lD ss n c59 args h:=rfl
theorem R5 (ss:List aS) (n:Nat) (args:List AV) (h:aa):eI ss n 60 args h=lD ss n Tv args h:=rfl
theorem Gi (ss:List aS) (n:Nat) (args:List AV) (h:aa):eI ss n 61 args h=lD ss n Px args h:=rfl
theorem kC (ss:List aS) (n:Nat) (args:List AV) (h:aa):eI ss n 62 args h=lD ss n z6 args h:=rfl
theorem F8 (ss:List aS) (n:Nat) (args:List AV) (h:aa):eI ss n 63 args h=lD ss n QJ args h:=rfl
theorem RJ (ss:List aS) (n:Nat) (args:List AV) (h:aa):eI ss n 66 args h=lD ss n Ts args h:=rfl
theorem Gb (ss:List aS) (n:Nat) (args:List AV) (h:aa):eI ss n 70 args h=lD ss n c70 args h:=rfl
theorem N1 (ss:List aS) (n:Nat) (args:List AV) (h:aa):eI ss n 74 args h=lD ss n Rp args h:=rfl
theorem Lf (ss:List aS) (n:Nat) (args:List AV) (h:aa):eI ss n 75 args h=lD ss n c75 args h:=rfl
theorem Rs (ss:List aS) (n:Nat) (args:List AV) (h:aa):eI ss n 76 args h=lD ss n c76 args h:=rfl
theorem BU (ss:List aS) (n:Nat) (args:List AV) (h:aa):eI ss n 77 args h=lD ss n Of args h:=rfl
theorem JJ (ss:List aS) (n:Nat) (args:List AV) (h:aa):eI ss n 78 args h=lD ss n QY args h:=rfl
theorem FX (ss:List aS) (n:Nat) (args:List AV) (h:aa):eI ss n 79 args h=lD ss n Qc args h:=rfl
theorem SA (ss:List aS) (n:Nat) (args:List AV) (h:aa):eI ss n 82 args h=lD ss n Tf args h:=rfl
theorem Gx (ss:List aS) (n:Nat) (args:List AV) (h:aa):eI ss n 85 args h=lD ss n c85 args h:=rfl
theorem Ry (ss:List aS) (n:Nat) (args:List AV) (h:aa):eI ss n 86 args h=lD ss n Th args h:=rfl
theorem zX (ss:List aS) (n:Nat) (args:List AV) (h:aa):eI ss n 101 args h=lD ss n DQ args h:=rfl
theorem wk (ss:List aS) (n:Nat) (args:List AV) (h:aa):eI ss n 102 args h=lD ss n Bt args h:=rfl
theorem Dc (ss:List aS) (n:Nat) (args:List AV) (h:aa):eI ss n 103 args h=lD ss n G9 args h:=rfl
theorem Db (ss:List aS) (n:Nat) (args:List AV) (h:aa):eI ss n 104 args h=lD ss n HY args h:=rfl
theorem Qu (ss:List aS) (n:Nat) (args:List AV) (h:aa):eI ss n 105 args h=lD ss n c105 args h:=rfl
theorem Oo (ss:List aS) (n:Nat) (args:List AV) (h:aa):eI ss n 106 args h=lD ss n LL args h:=rfl
theorem Pm (ss:List aS) (n:Nat) (args:List AV) (h:aa):eI ss n 116 args h=lD ss n c116 args h:=rfl
theorem O2 (ss:List aS) (n:Nat) (args:List AV) (h:aa):eI ss n 117 args h=lD ss n c117 args h:=rfl
theorem qI (ss:List aS) (n:Nat) (args:List AV) (h:aa):eI ss n 118 args h=lD ss n xW args h:=rfl
theorem La (ss:List aS) (n:Nat) (args:List AV) (h:aa):eI ss n 119 args h=lD ss n c119 args h:=rfl
theorem tB (ss:List aS) (n:Nat) (args:List AV) (h:aa):eI ss n 122 args h=lD ss n Ag args h:=rfl
theorem zE (ss:List aS) (n:Nat) (args:List AV) (h:aa):eI ss n 157 args h=lD ss n c157 args h:=rfl
theorem PM (ss:List aS) (n:Nat) (args:List AV) (h:aa):eI ss n 158 args h=lD ss n M0 args h:=rfl
theorem Eo (ss:List aS) (n:Nat) (args:List AV) (h:aa):eI ss n 162 args h=lD ss n c162 args h:=rfl
theorem zN (ss:List aS) (n:Nat) (args:List AV) (h:aa):eI ss n 180 args h=lD ss n DA args h:=rfl
noncomputable def bh (ss:List aS) (ms:List bM):Env:=KL xK (ss++nj) ms
theorem eV {X:World→Prop} {ss:List aS} (hs:∀s ∈ ss,eR Tryz.prog X s) {ms:List bM} (hm:∀m ∈ ms,dy Tryz.prog X m):b8 Tryz.prog X (bh ss ms):=
  GF mixed FF (fun s h=>by
    rcases List.mem_append.1 h with h | h
    · exact hs s h
    · exact (ya s h).lift) hm
theorem sh {ss:List aS} (hs:∀s ∈ ss,bC Tryz.prog s) {ms:List bM} (hm:∀m ∈ ms,jW Tryz.prog m):Ob Tryz.prog (bh ss ms):=eV hs hm
noncomputable def kG (ss:List aS) (ms:List bM) (n:Nat) (F:cp) (args:List AV) (h:aa):Option (AV×aa):=
  match aT (az (bh ss ms) n) n F.code (args++List.replicate (F.ntmps - args.length) .undef) ⟨h.next,h.fv,h.next,h.next⟩ with
    | some (.exit _,_,_)=>none
    | some (_,fr,h')=>(match fT fr h' F.results with | some vs=>some (finish F.eX h (oneOf vs) h') | none=>none)
    | none=>none
noncomputable def fV (ss:List aS) (ms:List bM) (n f:Nat) (args:List AV) (h:aa):Option (AV×aa):=
  match xK f with
  | none=>none
  | some F=>kG ss ms n F args h
noncomputable def Tt (ss:List aS) (ms:List bM) (n f:Nat) (args:List AV) (h:aa):Option (AV×aa)→Option (AV×aa)
  | some r=>some r
  | none=>fV ss ms n f args h
theorem Rw (ss:List aS) (ms:List bM) (n f:Nat) (args:List AV) (h:aa) (r:AV×aa):Tt ss ms n f args h (some r)=some r:=rfl
theorem SH (ss:List aS) (ms:List bM) (n f:Nat) (args:List AV) (h:aa):Tt ss ms n f args h none=fV ss ms n f args h:=rfl
noncomputable def oQ (lm:List bM) (ss:List aS) (ms:List bM) (n f:Nat) (args:List AV) (h:aa):Option (AV×aa):=Tt ss ms n f args h (lB (lZ lm f) args h)
noncomputable def L0 (lm:List bM) (ss:List aS) (ms:List bM) (n f:Nat) (args:List AV) (h:aa) (ids:List Nat):Option AV→Option (AV×aa)
  | some v=>some (v,if mQ v then h else kill h ids)
  | none=>oQ lm ss ms n f args h
noncomputable def LN (S:List AV→Option AV) (lm:List bM) (ss:List aS) (ms:List bM) (n f:Nat) (args:List AV) (h:aa):Option (List AV×List Nat)→Option (AV×aa)
  | some p=>L0 lm ss ms n f args h p.2 (S p.1)
  | none=>oQ lm ss ms n f args h
theorem OC (lm:List bM) (ss:List aS) (ms:List bM) (n f:Nat) (args:List AV) (h:aa) (ids:List Nat) (v:AV):L0 lm ss ms n f args h ids (some v)=some (v,if mQ v then h else kill h ids):=rfl
theorem Kt (lm:List bM) (ss:List aS) (ms:List bM) (n f:Nat) (args:List AV) (h:aa) (ids:List Nat):L0 lm ss ms n f args h ids none=oQ lm ss ms n f args h:=rfl
theorem Kn (S:List AV→Option AV) (lm:List bM) (ss:List aS) (ms:List bM) (n f:Nat) (args:List AV) (h:aa) (bs:List AV) (ids:List Nat):LN S lm ss ms n f args h (some (bs,ids))=L0 lm ss ms n f args h ids (S bs):=rfl
theorem J3 (S:List AV→Option AV) (lm:List bM) (ss:List aS) (ms:List bM) (n f:Nat) (args:List AV) (h:aa):LN S lm ss ms n f args h none=oQ lm ss ms n f args h:=rfl
noncomputable def yZ (l:List aS) (lm:List bM) (ss:List aS) (ms:List bM) (n f:Nat) (args:List AV) (h:aa):Option (AV×aa):=LN (jF l f) lm ss ms n f args h (ij (hZ h 0 8) args)
theorem zR (ss:List aS) (ms:List bM) (n f:Nat) (args:List AV) (h:aa):az (bh ss ms) (n+1) f args h=yZ (o7 (ss++nj) f) (ma ms f) ss ms n f args h:=by
  conv=>lhs;unfold az
  have e:∀a,jF (o7 (ss++nj) f) f a=(bh ss ms).xS f a:=fun a=>r8 f a _
  have e1:lZ (ma ms f) f=(bh ss ms).z8 f:=funext fun a=>funext fun o=>tJ f a o ms
  have e2:(bh ss ms).fn f=xK f:=rfl
  have key:fV ss ms n f args h=(match (bh ss ms).fn f with
      | none=>none
      | some F=>
        match aT (az (bh ss ms) n) n F.code (args++List.replicate (F.ntmps - args.length) .undef) ⟨h.next,h.fv,h.next,h.next⟩ with
        | some (.exit _,_,_)=>none
        | some (_,fr,h')=>(fT fr h' F.results).map fun vs=>finish F.eX h (oneOf vs) h'
        | none=>none):=by
    rw[e2];unfold fV
    cases xK f with
    | none=>rfl
    | some F=>
      dsimp only;unfold kG
      cases aT (az (bh ss ms) n) n F.code (args++List.replicate (F.ntmps - args.length) .undef) ⟨h.next,h.fv,h.next,h.next⟩ with
      | none=>rfl
      | some r=>
        obtain⟨ex,fr,h'⟩:=r;cases ex<;>first | rfl | (dsimp only;cases fT fr h' F.results<;>rfl)
  have key2:oQ (ma ms f) ss ms n f args h=(match lB ((bh ss ms).z8 f) args h with
      | some r=>some r
      | none=>fV ss ms n f args h):=by
    unfold oQ;rw[e1]
    cases lB ((bh ss ms).z8 f) args h with
    | none=>rfl
    | some r=>rfl
  rw[key] at key2;unfold yZ
  cases hz:ij (hZ h 0 8) args with
  | none=>rw[J3];exact key2.symm
  | some p=>
    obtain⟨args',ids⟩:=p;rw[Kn];dsimp only[Option.bind];rw[e]
    cases hp:(bh ss ms).xS f args' with
    | none=>rw[Kt];exact key2.symm
    | some v=>rfl
theorem H9 (lm:List bM) (ss:List aS) (ms:List bM) (n f:Nat) (args:List AV) (h:aa):yZ [] lm ss ms n f args h=oQ lm ss ms n f args h:=by
  unfold yZ
  cases ij (hZ h 0 8) args with
  | none=>rfl
  | some p=>rfl
theorem Ia (s:aS) (lm:List bM) (ss:List aS) (ms:List bM) (n f:Nat) (args:List AV) (h:aa) (hf:s.f=f):yZ [s] lm ss ms n f args h=LN s.S lm ss ms n f args h (ij (hZ h 0 8) args):=by
  unfold yZ
  have e:jF [s] f=s.S:=funext fun a=>by
    simp only[jF,hf,if_true];cases s.S a<;>rfl
  rw[e]
theorem HF (ss:List aS) (ms:List bM) (n f:Nat) (args:List AV) (h:aa):oQ [] ss ms n f args h=fV ss ms n f args h:=by
  unfold oQ;have e:lZ [] f=fun _ _=>none:=rfl
  rw[e,w7];rfl
theorem Hp (m:bM) (ss:List aS) (ms:List bM) (n f:Nat) (args:List AV) (h:aa) (hf:m.f=f):oQ [m] ss ms n f args h=Tt ss ms n f args h (lB m.S args h):=by
  unfold oQ
  have e:lZ [m] f=m.S:=funext fun a=>funext fun o=>by
    simp only[lZ,hf,if_true];cases m.S a o<;>rfl
  rw[e]
theorem MW (ss:List aS) (ms:List bM) (n:Nat) (F:cp) (args:List AV) (h:aa) (hle:args.length≤F.ntmps):kG ss ms n F args h=
  match aT (az (bh ss ms) n) n F.code (FM F.ntmps (sw 0 args)) ⟨h.next,h.fv,h.next,h.next⟩ with
    | some (.exit _,_,_)=>none
    | some (_,fr,h')=>(match fT fr h' F.results with | some vs=>some (finish F.eX h (oneOf vs) h') | none=>none)
    | none=>none:=by
  rw[←Av args hle];rfl
theorem me (ss:List aS) (ms:List bM) (n:Nat) (args:List AV) (h:aa):fV ss ms n 14 args h=kG ss ms n Hu args h:=rfl
theorem Ai (ss:List aS) (ms:List bM) (n:Nat) (args:List AV) (h:aa):fV ss ms n 15 args h=kG ss ms n Oj args h:=rfl
theorem vW (ss:List aS) (ms:List bM) (n:Nat) (args:List AV) (h:aa):fV ss ms n 17 args h=kG ss ms n NX args h:=rfl
theorem iP (ss:List aS) (ms:List bM) (n:Nat) (args:List AV) (h:aa):fV ss ms n 42 args h=kG ss ms n AG args h:=rfl
theorem im (ss:List aS) (ms:List bM) (n:Nat) (args:List AV) (h:aa):fV ss ms n 43 args h=kG ss ms n zw args h:=rfl
theorem Kj (ss:List aS) (ms:List bM) (n:Nat) (args:List AV) (h:aa):fV ss ms n 44 args h=kG ss ms n RZ args h:=rfl
theorem jN (ss:List aS) (ms:List bM) (n:Nat) (args:List AV) (h:aa):fV ss ms n 45 args h=kG ss ms n C4 args h:=rfl
theorem uo (ss:List aS) (ms:List bM) (n:Nat) (args:List AV) (h:aa):fV ss ms n 71 args h=kG ss ms n Mq args h:=rfl
theorem zV (ss:List aS) (ms:List bM) (n:Nat) (args:List AV) (h:aa):fV ss ms n 72 args h=kG ss ms n c72 args h:=rfl
theorem PA (ss:List aS) (ms:List bM) (n:Nat) (args:List AV) (h:aa):fV ss ms n 73 args h=kG ss ms n Tw args h:=rfl
theorem Ew (ss:List aS) (ms:List bM) (n:Nat) (args:List AV) (h:aa):fV ss ms n 80 args h=kG ss ms n c80 args h:=rfl
theorem C9 (ss:List aS) (ms:List bM) (n:Nat) (args:List AV) (h:aa):fV ss ms n 81 args h=kG ss ms n QT args h:=rfl
theorem Po (ss:List aS) (ms:List bM) (n:Nat) (args:List AV) (h:aa):fV ss ms n 83 args h=kG ss ms n Ty args h:=rfl
theorem ck (ss:List aS) (ms:List bM) (n:Nat) (args:List AV) (h:aa):fV ss ms n 120 args h=kG ss ms n ft args h:=rfl
theorem pn (ss:List aS) (ms:List bM) (n:Nat) (args:List AV) (h:aa):fV ss ms n 121 args h=kG ss ms n Am args h:=rfl
theorem s9 (ss:List aS) (ms:List bM) (n:Nat) (args:List AV) (h:aa):fV ss ms n 159 args h=kG ss ms n c159 args h:=rfl
theorem pb (ss:List aS) (ms:List bM) (n:Nat) (args:List AV) (h:aa):fV ss ms n 160 args h=kG ss ms n c160 args h:=rfl
theorem gA (ss:List aS) (ms:List bM) (n:Nat) (args:List AV) (h:aa):fV ss ms n 161 args h=kG ss ms n oH args h:=rfl
theorem px (ss:List aS) (ms:List bM) (n:Nat) (args:List AV) (h:aa):fV ss ms n 163 args h=kG ss ms n Aq args h:=rfl
theorem jh (ss:List aS) (ms:List bM) (n:Nat) (args:List AV) (h:aa):fV ss ms n 164 args h=kG ss ms n c164 args h:=rfl
theorem fJ (ss:List aS) (ms:List bM) (n:Nat) (args:List AV) (h:aa):fV ss ms n 181 args h=kG ss ms n nf args h:=rfl
end Go.Proofs.YtjmeonoabiliiaaGreatDoor
