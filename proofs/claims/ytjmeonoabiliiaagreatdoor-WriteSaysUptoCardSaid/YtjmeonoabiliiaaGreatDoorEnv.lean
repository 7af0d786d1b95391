import Derived.Test.YtjmeonoabiliiaaGreatDoorCode
import Derived.Test.YtjmeonoabiliiaaGreatDoorSz3
set_option linter.unusedVariables false
set_option linter.unusedSimpArgs false
set_option linter.unusedSectionVars false
set_option maxHeartbeats 16000000
set_option maxRecDepth 100000

namespace Go.Proofs.YtjmeonoabiliiaaGreatDoor
open Go Sz
set_option maxHeartbeats 4000000
def zW:Nat→Option br
  | 6=>some c6
  | 12=>some c12
  | 15=>some TM
  | 18=>some Wy
  | 19=>some RT
  | 20=>some c20
  | 21=>some c21
  | 22=>some Uz
  | 23=>some VA
  | 24=>some c24
  | 25=>some Uv
  | 27=>some Tn
  | 28=>some c28
  | 29=>some Wh
  | 30=>some VP
  | 31=>some c31
  | 32=>some WL
  | 34=>some Uu
  | 37=>some c37
  | 40=>some c40
  | 44=>some V1
  | 45=>some FY
  | 47=>some Up
  | 48=>some Ww
  | 49=>some c49
  | 50=>some T5
  | 51=>some c51
  | 52=>some Ux
  | 53=>some c53
  | 54=>some Ut
  | 55=>some zR
  | 56=>some Sl
  | 57=>some Ql
  | 59=>some c59
  | 60=>some WC
  | 61=>some Qu
  | 62=>some CP
  | 63=>some Sd
  | 64=>some Qm
  | 67=>some Te
  | 70=>some c70
  | 73=>some Wq
  | 74=>some Vg
  | 75=>some c75
  | 76=>some c76
  | 77=>some RW
  | 78=>some UA
  | 79=>some Tl
  | 80=>some c80
  | 81=>some Uw
  | 82=>some WD
  | 83=>some WK
  | 86=>some WE
  | 87=>some c87
  | 88=>some H2
  | 89=>some Wv
  | 90=>some Wi
  | 91=>some c91
  | 92=>some Ca
  | 93=>some c93
  | 94=>some VR
  | 95=>some TD
  | 96=>some UR
  | 97=>some CX
  | 98=>some CN
  | 99=>some RF
  | 101=>some G0
  | 102=>some E8
  | 103=>some Km
  | 104=>some KJ
  | 105=>some c105
  | 106=>some Q8
  | 109=>some c109
  | 110=>some ji
  | 113=>some CI
  | 116=>some c116
  | 117=>some c117
  | 118=>some Ab
  | 119=>some c119
  | 122=>some Cy
  | 127=>some c127
  | 128=>some C6
  | 129=>some CV
  | 130=>some c130
  | 131=>some c131
  | 132=>some KU
  | 133=>some mw
  | 134=>some K5
  | 135=>some Qv
  | 136=>some P3
  | 137=>some Oj
  | 138=>some c138
  | 139=>some c139
  | 140=>some yI
  | 141=>some c141
  | 142=>some HS
  | 144=>some JC
  | 145=>some c145
  | 146=>some c146
  | 147=>some NQ
  | 148=>some c148
  | 149=>some GF
  | 150=>some Cp
  | 151=>some ON
  | 157=>some c157
  | 158=>some Q4
  | 177=>some uT
  | 180=>some GW
  | 195=>some Rf
  | _=>none
theorem IE (f:Nat) (F:br) (h:zW f=some F):bA Tryz.prog f F:=by
  unfold zW at h;split at h
  · cases h;exact X9
  · cases h;exact X1
  · cases h;exact XD
  · cases h;exact WT
  · cases h;exact Xz
  · cases h;exact XU
  · cases h;exact Xf
  · cases h;exact XY
  · cases h;exact WM
  · cases h;exact WN
  · cases h;exact WY
  · cases h;exact W8
  · cases h;exact W9
  · cases h;exact Xy
  · cases h;exact WS
  · cases h;exact XA
  · cases h;exact WX
  · cases h;exact Xr
  · cases h;exact Xv
  · cases h;exact XL
  · cases h;exact XW
  · cases h;exact W4
  · cases h;exact XF
  · cases h;exact Xi
  · cases h;exact XS
  · cases h;exact XT
  · cases h;exact W6
  · cases h;exact XJ
  · cases h;exact XP
  · cases h;exact W2
  · cases h;exact XH
  · cases h;exact Xa
  · cases h;exact WZ
  · cases h;exact XQ
  · cases h;exact Xm
  · cases h;exact Xu
  · cases h;exact Xk
  · cases h;exact XE
  · cases h;exact Xd
  · cases h;exact WW
  · cases h;exact WQ
  · cases h;exact XC
  · cases h;exact XI
  · cases h;exact XN
  · cases h;exact Xx
  · cases h;exact W1
  · cases h;exact XG
  · cases h;exact WU
  · cases h;exact Xs
  · cases h;exact W5
  · cases h;exact XX
  · cases h;exact XZ
  · cases h;exact Xc
  · cases h;exact Xn
  · cases h;exact Xw
  · cases h;exact Xo
  · cases h;exact Xg
  · cases h;exact W7
  · cases h;exact W3
  · cases h;exact Xl
  · cases h;exact XO
  · cases h;exact X2
  · cases h;exact XM
  · cases h;exact XB
  · cases h;exact Xe
  · cases h;exact X3
  · cases h;exact V5
  · cases h;exact VQ
  · cases h;exact VS
  · cases h;exact VK
  · cases h;exact VE
  · cases h;exact Vq
  · cases h;exact UB
  · cases h;exact UK
  · cases h;exact Vu
  · cases h;exact Vr
  · cases h;exact VD
  · cases h;exact UZ
  · cases h;exact UT
  · cases h;exact UG
  · cases h;exact UJ
  · cases h;exact Vj
  · cases h;exact U5
  · cases h;exact V6
  · cases h;exact Vx
  · cases h;exact UH
  · cases h;exact V9
  · cases h;exact UO
  · cases h;exact Vn
  · cases h;exact VJ
  · cases h;exact UF
  · cases h;exact V7
  · cases h;exact Wk
  · cases h;exact U6
  · cases h;exact Wa
  · cases h;exact U1
  · cases h;exact Wj
  · cases h;exact U4
  · cases h;exact Va
  · cases h;exact VW
  · cases h;exact Vs
  · cases h;exact Wg
  · cases h;exact UP
  · cases h;exact UW
  · cases h;exact VT
  · cases h;exact V4
  · cases h;exact Vl
  · cases h;exact UQ
  · cases h;exact VZ
  · cases h
theorem mixed:Tryz.prog.follows .mixedOrders=true:=by kernel_rfl
def rG (f:Nat):ai:=⟨f,fun | [.ax]=>some .ax | [.sl []]=>some .ax | _=>none⟩
theorem O9 (f:Nat):(rG f).f=f:=(rfl)
theorem DZ (f:Nat):(rG f).S [.ax]=some .ax:=rfl
theorem G4 (f:Nat):(rG f).S [.sl []]=some .ax:=rfl
theorem JE (f:Nat) {xs:List AV} (h:xs≠[]):(rG f).S [.sl xs]=none:=by
  cases xs with
  | nil=>exact absurd rfl h
  | cons x r=>rfl
theorem J2 {f:Nat} (hc:CM Tryz.prog f):az Tryz.prog (rG f):=fun args v hv=>by
  have key:∀x,x=AV.ax∨x=.sl []→args=[x]→v=.ax→Mw Tryz.prog f args v:=fun x hx ha h2=>by
    subst ha h2;exact Bz (h':=h0) rfl (by rcases hx with rfl | rfl<;>rfl) fun φ w cargs hr hG ha=>.inl (Gv mixed hc hx hr hG ha)
  unfold rG at hv;dsimp only at hv;split at hv
  · cases hv;exact key _ (.inl rfl) rfl rfl
  · cases hv;exact key _ (.inr rfl) rfl rfl
  · cases hv
def nq:List ai:=[rG 86]
theorem Bd:∀s ∈ nq,az Tryz.prog s:=by
  intro s hs;simp only[nq,List.mem_cons,List.not_mem_nil,or_false] at hs;subst hs
  · exact J2 P5
noncomputable def a8 (ss:List ai):Env:=Ik zW (ss++nq)
theorem gQ {X:World→Prop} {ss:List ai} (hs:∀s ∈ ss,ck Tryz.prog X s):dA Tryz.prog X (a8 ss):=
  FX mixed IE fun s h=>by
    rcases List.mem_append.1 h with h | h
    · exact hs s h
    · exact (Bd s h).lift
theorem aG {ss:List ai} (hs:∀s ∈ ss,az Tryz.prog s):RX Tryz.prog (a8 ss):=gQ hs
noncomputable def fA (ss:List ai) (n:Nat) (F:br) (args:List AV) (h:aa):Option (AV×aa):=
  match ak (aw (a8 ss) n) n F.code (args++List.replicate (F.ntmps - args.length) .undef) ⟨h.next,h.eg,h.next,h.next⟩ with
    | some (.exit _,_,_)=>none
    | some (_,fr,h')=>(match fF fr h' F.results with | some vs=>some (finish F.ez h (oneOf vs) h') | none=>none)
    | none=>none
noncomputable def bX (ss:List ai) (n f:Nat) (args:List AV) (h:aa):Option (AV×aa):=
  match zW f with
  | none=>none
  | some F=>fA ss n F args h
noncomputable def zp (l ss:List ai) (n f:Nat) (args:List AV) (h:aa):Option (AV×aa):=
  match gW (gr h 0 8) args with
  | some (args',ids)=>(match jq l f args' with | some v=>some (v,if mT v then h else kill h ids) | none=>bX ss n f args h)
  | none=>bX ss n f args h
theorem Fk (ss:List ai) (n f:Nat) (args:List AV) (h:aa):aw (a8 ss) (n+1) f args h=zp (oF (ss++nq) f) ss n f args h:=by
  conv=>lhs;unfold aw
  have hmeth:lr ((a8 ss).Dg f) args h=none:=yq args h;rw[hmeth];unfold zp;have e:∀a,jq (oF (ss++nq) f) f a=(a8 ss).zZ f a:=fun a=>ux f a _
  have e2:(a8 ss).fn f=zW f:=rfl
  have key:bX ss n f args h=(match (a8 ss).fn f with
      | none=>none
      | some F=>
        match ak (aw (a8 ss) n) n F.code (args++List.replicate (F.ntmps - args.length) .undef) ⟨h.next,h.eg,h.next,h.next⟩ with
        | some (.exit _,_,_)=>none
        | some (_,fr,h')=>(fF fr h' F.results).map fun vs=>finish F.ez h (oneOf vs) h'
        | none=>none):=by
    rw[e2];unfold bX
    cases zW f with
    | none=>rfl
    | some F=>
      dsimp only;unfold fA
      cases ak (aw (a8 ss) n) n F.code (args++List.replicate (F.ntmps - args.length) .undef) ⟨h.next,h.eg,h.next,h.next⟩ with
      | none=>rfl
      | some r=>
        obtain⟨ex,fr,h'⟩:=r;cases ex<;>first | rfl | (dsimp only;cases fF fr h' F.results<;>rfl)
  cases hz:gW (gr h 0 8) args with
  | none=>exact key.symm
  | some p=>
    obtain⟨args',ids⟩:=p;dsimp only[Option.bind];rw[e]
    cases hp:(a8 ss).zZ f args' with
    | none=>exact key.symm
    | some v=>rfl
theorem Kv (ss:List ai) (n f:Nat) (args:List AV) (h:aa):zp [] ss n f args h=bX ss n f args h:=by
  unfold zp;split
  · rfl
  · rfl
theorem Ki (s:ai) (ss:List ai) (n f:Nat) (args:List AV) (h:aa) (hf:s.f=f):zp [s] ss n f args h=match gW (gr h 0 8) args with
  | some (args',ids)=>(match s.S args' with | some v=>some (v,if mT v then h else kill h ids) | none=>bX ss n f args h)
  | none=>bX ss n f args h:=by
  unfold zp;split
  · simp only[jq,hf,if_true]
    split
    · rename_i h1
      split at h1
      · rename_i h2;cases h1;rw[h2]
      · cases h1
    · rename_i h1
      split at h1
      · cases h1
      · rename_i h2;rw[h2]
  · rfl
noncomputable def WB (ss:List ai) (n f:Nat) (args:List AV) (h:aa) (ids:List Nat):Option AV→Option (AV×aa)
  | some v=>some (v,if mT v then h else kill h ids)
  | none=>bX ss n f args h
noncomputable def XR (s:ai) (ss:List ai) (n f:Nat) (args:List AV) (h:aa):Option (List AV×List Nat)→Option (AV×aa)
  | some p=>WB ss n f args h p.2 (s.S p.1)
  | none=>bX ss n f args h
theorem Wn (ss:List ai) (n f:Nat) (args:List AV) (h:aa) (ids:List Nat) (v:AV):WB ss n f args h ids (some v)=some (v,if mT v then h else kill h ids):=rfl
theorem Wd (ss:List ai) (n f:Nat) (args:List AV) (h:aa) (ids:List Nat):WB ss n f args h ids none=bX ss n f args h:=rfl
theorem VL (s:ai) (ss:List ai) (n f:Nat) (args:List AV) (h:aa) (bs:List AV) (ids:List Nat):XR s ss n f args h (some (bs,ids))=WB ss n f args h ids (s.S bs):=rfl
theorem UD (s:ai) (ss:List ai) (n f:Nat) (args:List AV) (h:aa):XR s ss n f args h none=bX ss n f args h:=rfl
theorem Gn (s:ai) (ss:List ai) (n f:Nat) (args:List AV) (h:aa) (hf:s.f=f):zp [s] ss n f args h=XR s ss n f args h (gW (gr h 0 8) args):=by
  rw[Ki s ss n f args h hf];rcases gW (gr h 0 8) args with _ | ⟨bs,ids⟩
  · rfl
  · rfl
theorem S7 (ss:List ai) (n:Nat) (F:br) (args:List AV) (h:aa) (hle:args.length≤F.ntmps):fA ss n F args h=
  match ak (aw (a8 ss) n) n F.code (FM F.ntmps (wO 0 args)) ⟨h.next,h.eg,h.next,h.next⟩ with
    | some (.exit _,_,_)=>none
    | some (_,fr,h')=>(match fF fr h' F.results with | some vs=>some (finish F.ez h (oneOf vs) h') | none=>none)
    | none=>none:=by
  rw[←Ij args hle];rfl
theorem Sy (ss:List ai) (n:Nat) (args:List AV) (h:aa):bX ss n 6 args h=fA ss n c6 args h:=rfl
theorem Vy (ss:List ai) (n:Nat) (args:List AV) (h:aa):bX ss n 18 args h=fA ss n Wy args h:=rfl
theorem Eg (ss:List ai) (n:Nat) (args:List AV) (h:aa):bX ss n 19 args h=fA ss n RT args h:=rfl
theorem Ow (ss:List ai) (n:Nat) (args:List AV) (h:aa):bX ss n 22 args h=fA ss n Uz args h:=rfl
theorem Ry (ss:List ai) (n:Nat) (args:List AV) (h:aa):bX ss n 23 args h=fA ss n VA args h:=rfl
theorem Js (ss:List ai) (n:Nat) (args:List AV) (h:aa):bX ss n 27 args h=fA ss n Tn args h:=rfl
theorem Vo (ss:List ai) (n:Nat) (args:List AV) (h:aa):bX ss n 28 args h=fA ss n c28 args h:=rfl
theorem RZ (ss:List ai) (n:Nat) (args:List AV) (h:aa):bX ss n 29 args h=fA ss n Wh args h:=rfl
theorem Rz (ss:List ai) (n:Nat) (args:List AV) (h:aa):bX ss n 30 args h=fA ss n VP args h:=rfl
theorem FL (ss:List ai) (n:Nat) (args:List AV) (h:aa):bX ss n 31 args h=fA ss n c31 args h:=rfl
theorem VO (ss:List ai) (n:Nat) (args:List AV) (h:aa):bX ss n 32 args h=fA ss n WL args h:=rfl
theorem Oq (ss:List ai) (n:Nat) (args:List AV) (h:aa):bX ss n 34 args h=fA ss n Uu args h:=rfl
theorem yj (ss:List ai) (n:Nat) (args:List AV) (h:aa):bX ss n 37 args h=fA ss n c37 args h:=rfl
theorem Ni (ss:List ai) (n:Nat) (args:List AV) (h:aa):bX ss n 47 args h=fA ss n Up args h:=rfl
theorem V0 (ss:List ai) (n:Nat) (args:List AV) (h:aa):bX ss n 48 args h=fA ss n Ww args h:=rfl
theorem Ig (ss:List ai) (n:Nat) (args:List AV) (h:aa):bX ss n 51 args h=fA ss n c51 args h:=rfl
theorem MW (ss:List ai) (n:Nat) (args:List AV) (h:aa):bX ss n 52 args h=fA ss n Ux args h:=rfl
theorem RA (ss:List ai) (n:Nat) (args:List AV) (h:aa):bX ss n 53 args h=fA ss n c53 args h:=rfl
theorem L6 (ss:List ai) (n:Nat) (args:List AV) (h:aa):bX ss n 54 args h=fA ss n Ut args h:=rfl
theorem R6 (ss:List ai) (n:Nat) (args:List AV) (h:aa):bX ss n 59 args h=fA ss n c59 args h:=rfl
theorem UU (ss:List ai) (n:Nat) (args:List AV) (h:aa):bX ss n 60 args h=fA ss n WC args h:=rfl
theorem Au (ss:List ai) (n:Nat) (args:List AV) (h:aa):bX ss n 61 args h=fA ss n Qu args h:=rfl
theorem ky (ss:List ai) (n:Nat) (args:List AV) (h:aa):bX ss n 62 args h=fA ss n CP args h:=rfl
theorem IH (ss:List ai) (n:Nat) (args:List AV) (h:aa):bX ss n 63 args h=fA ss n Sd args h:=rfl
theorem BJ (ss:List ai) (n:Nat) (args:List AV) (h:aa):bX ss n 64 args h=fA ss n Qm args h:=rfl
theorem Jg (ss:List ai) (n:Nat) (args:List AV) (h:aa):bX ss n 67 args h=fA ss n Te args h:=rfl
theorem IT (ss:List ai) (n:Nat) (args:List AV) (h:aa):bX ss n 70 args h=fA ss n c70 args h:=rfl
theorem R3 (ss:List ai) (n:Nat) (args:List AV) (h:aa):bX ss n 74 args h=fA ss n Vg args h:=rfl
theorem Po (ss:List ai) (n:Nat) (args:List AV) (h:aa):bX ss n 75 args h=fA ss n c75 args h:=rfl
theorem Vm (ss:List ai) (n:Nat) (args:List AV) (h:aa):bX ss n 76 args h=fA ss n c76 args h:=rfl
theorem EU (ss:List ai) (n:Nat) (args:List AV) (h:aa):bX ss n 77 args h=fA ss n RW args h:=rfl
theorem NZ (ss:List ai) (n:Nat) (args:List AV) (h:aa):bX ss n 78 args h=fA ss n UA args h:=rfl
theorem ID (ss:List ai) (n:Nat) (args:List AV) (h:aa):bX ss n 79 args h=fA ss n Tl args h:=rfl
theorem Vp (ss:List ai) (n:Nat) (args:List AV) (h:aa):bX ss n 82 args h=fA ss n WD args h:=rfl
theorem U3 (ss:List ai) (n:Nat) (args:List AV) (h:aa):bX ss n 86 args h=fA ss n WE args h:=rfl
theorem NN (ss:List ai) (n:Nat) (args:List AV) (h:aa):bX ss n 87 args h=fA ss n c87 args h:=rfl
theorem oi (ss:List ai) (n:Nat) (args:List AV) (h:aa):bX ss n 88 args h=fA ss n H2 args h:=rfl
theorem Wb (ss:List ai) (n:Nat) (args:List AV) (h:aa):bX ss n 89 args h=fA ss n Wv args h:=rfl
theorem RG (ss:List ai) (n:Nat) (args:List AV) (h:aa):bX ss n 90 args h=fA ss n Wi args h:=rfl
theorem Nl (ss:List ai) (n:Nat) (args:List AV) (h:aa):bX ss n 91 args h=fA ss n c91 args h:=rfl
theorem kC (ss:List ai) (n:Nat) (args:List AV) (h:aa):bX ss n 92 args h=fA ss n Ca args h:=rfl
theorem yt (ss:List ai) (n:Nat) (args:List AV) (h:aa):bX ss n 93 args h=fA ss n c93 args h:=rfl
theorem RB (ss:List ai) (n:Nat) (args:List AV) (h:aa):bX ss n 94 args h=fA ss n VR args h:=rfl
theorem IS (ss:List ai) (n:Nat) (args:List AV) (h:aa):bX ss n 95 args h=fA ss n TD args h:=rfl
theorem Dl (ss:List ai) (n:Nat) (args:List AV) (h:aa):bX ss n 99 args h=fA ss n RF args h:=rfl
theorem B8 (ss:List ai) (n:Nat) (args:List AV) (h:aa):bX ss n 101 args h=fA ss n G0 args h:=rfl
theorem zu (ss:List ai) (n:Nat) (args:List AV) (h:aa):bX ss n 102 args h=fA ss n E8 args h:=rfl
theorem Gk (ss:List ai) (n:Nat) (args:List AV) (h:aa):bX ss n 103 args h=fA ss n Km args h:=rfl
theorem Hf (ss:List ai) (n:Nat) (args:List AV) (h:aa):bX ss n 104 args h=fA ss n KJ args h:=rfl
theorem Sa (ss:List ai) (n:Nat) (args:List AV) (h:aa):bX ss n 105 args h=fA ss n c105 args h:=rfl
theorem Uh (ss:List ai) (n:Nat) (args:List AV) (h:aa):bX ss n 106 args h=fA ss n Q8 args h:=rfl
theorem yx (ss:List ai) (n:Nat) (args:List AV) (h:aa):bX ss n 109 args h=fA ss n c109 args h:=rfl
theorem ee (ss:List ai) (n:Nat) (args:List AV) (h:aa):bX ss n 110 args h=fA ss n ji args h:=rfl
theorem uE (ss:List ai) (n:Nat) (args:List AV) (h:aa):bX ss n 113 args h=fA ss n CI args h:=rfl
theorem SW (ss:List ai) (n:Nat) (args:List AV) (h:aa):bX ss n 116 args h=fA ss n c116 args h:=rfl
theorem Tf (ss:List ai) (n:Nat) (args:List AV) (h:aa):bX ss n 117 args h=fA ss n c117 args h:=rfl
theorem sa (ss:List ai) (n:Nat) (args:List AV) (h:aa):bX ss n 118 args h=fA ss n Ab args h:=rfl
theorem NY (ss:List ai) (n:Nat) (args:List AV) (h:aa):bX ss n 119 args h=fA ss n c119 args h:=rfl
theorem vQ (ss:List ai) (n:Nat) (args:List AV) (h:aa):bX ss n 122 args h=fA ss n Cy args h:=rfl
theorem my (ss:List ai) (n:Nat) (args:List AV) (h:aa):bX ss n 127 args h=fA ss n c127 args h:=rfl
theorem SX (ss:List ai) (n:Nat) (args:List AV) (h:aa):bX ss n 128 args h=fA ss n C6 args h:=rfl
theorem uU (ss:List ai) (n:Nat) (args:List AV) (h:aa):bX ss n 129 args h=fA ss n CV args h:=rfl
theorem Ns (ss:List ai) (n:Nat) (args:List AV) (h:aa):bX ss n 130 args h=fA ss n c130 args h:=rfl
theorem Sq (ss:List ai) (n:Nat) (args:List AV) (h:aa):bX ss n 131 args h=fA ss n c131 args h:=rfl
theorem Hu (ss:List ai) (n:Nat) (args:List AV) (h:aa):bX ss n 132 args h=fA ss n KU args h:=rfl
theorem Ue (ss:List ai) (n:Nat) (args:List AV) (h:aa):bX ss n 135 args h=fA ss n Qv args h:=rfl
theorem To (ss:List ai) (n:Nat) (args:List AV) (h:aa):bX ss n 136 args h=fA ss n P3 args h:=rfl
theorem G9 (ss:List ai) (n:Nat) (args:List AV) (h:aa):bX ss n 144 args h=fA ss n JC args h:=rfl
theorem yZ (ss:List ai) (n:Nat) (args:List AV) (h:aa):bX ss n 145 args h=fA ss n c145 args h:=rfl
theorem TJ (ss:List ai) (n:Nat) (args:List AV) (h:aa):bX ss n 146 args h=fA ss n c146 args h:=rfl
theorem Ov (ss:List ai) (n:Nat) (args:List AV) (h:aa):bX ss n 147 args h=fA ss n NQ args h:=rfl
theorem oH (ss:List ai) (n:Nat) (args:List AV) (h:aa):bX ss n 148 args h=fA ss n c148 args h:=rfl
theorem B1 (ss:List ai) (n:Nat) (args:List AV) (h:aa):bX ss n 149 args h=fA ss n GF args h:=rfl
theorem uY (ss:List ai) (n:Nat) (args:List AV) (h:aa):bX ss n 150 args h=fA ss n Cp args h:=rfl
theorem N1 (ss:List ai) (n:Nat) (args:List AV) (h:aa):bX ss n 151 args h=fA ss n ON args h:=rfl
theorem Cm (ss:List ai) (n:Nat) (args:List AV) (h:aa):bX ss n 157 args h=fA ss n c157 args h:=rfl
theorem Ul (ss:List ai) (n:Nat) (args:List AV) (h:aa):bX ss n 158 args h=fA ss n Q4 args h:=rfl
theorem mu (ss:List ai) (n:Nat) (args:List AV) (h:aa):bX ss n 177 args h=fA ss n uT args h:=rfl
theorem C3 (ss:List ai) (n:Nat) (args:List AV) (h:aa):bX ss n 180 args h=fA ss n GW args h:=rfl
theorem SH (ss:List ai) (n:Nat) (args:List AV) (h:aa):bX ss n 195 args h=fA ss n Rf args h:=rfl
noncomputable def cW (ss:List ai) (ms:List aU):Env:=Nc zW (ss++nq) ms
theorem dv {X:World→Prop} {ss:List ai} (hs:∀s ∈ ss,ck Tryz.prog X s) {ms:List aU} (hm:∀m ∈ ms,ch Tryz.prog X m):dA Tryz.prog X (cW ss ms):=
  JN mixed IE (fun s h=>by
    rcases List.mem_append.1 h with h | h
    · exact hs s h
    · exact (Bd s h).lift) hm
theorem pH {ss:List ai} (hs:∀s ∈ ss,az Tryz.prog s) {ms:List aU} (hm:∀m ∈ ms,iY Tryz.prog m):RX Tryz.prog (cW ss ms):=dv hs hm
noncomputable def iH (ss:List ai) (ms:List aU) (n:Nat) (F:br) (args:List AV) (h:aa):Option (AV×aa):=
  match ak (aw (cW ss ms) n) n F.code (args++List.replicate (F.ntmps - args.length) .undef) ⟨h.next,h.eg,h.next,h.next⟩ with
    | some (.exit _,_,_)=>none
    | some (_,fr,h')=>(match fF fr h' F.results with | some vs=>some (finish F.ez h (oneOf vs) h') | none=>none)
    | none=>none
noncomputable def ef (ss:List ai) (ms:List aU) (n f:Nat) (args:List AV) (h:aa):Option (AV×aa):=
  match zW f with
  | none=>none
  | some F=>iH ss ms n F args h
noncomputable def Ws (ss:List ai) (ms:List aU) (n f:Nat) (args:List AV) (h:aa):Option (AV×aa)→Option (AV×aa)
  | some r=>some r
  | none=>ef ss ms n f args h
theorem Vf (ss:List ai) (ms:List aU) (n f:Nat) (args:List AV) (h:aa) (r:AV×aa):Ws ss ms n f args h (some r)=some r:=rfl
theorem VX (ss:List ai) (ms:List aU) (n f:Nat) (args:List AV) (h:aa):Ws ss ms n f args h none=ef ss ms n f args h:=rfl
noncomputable def oN (lm:List aU) (ss:List ai) (ms:List aU) (n f:Nat) (args:List AV) (h:aa):Option (AV×aa):=Ws ss ms n f args h (lr (lV lm f) args h)
noncomputable def PU (lm:List aU) (ss:List ai) (ms:List aU) (n f:Nat) (args:List AV) (h:aa) (ids:List Nat):Option AV→Option (AV×aa)
  | some v=>some (v,if mT v then h else kill h ids)
  | none=>oN lm ss ms n f args h
noncomputable def Rm (S:List AV→Option AV) (lm:List aU) (ss:List ai) (ms:List aU) (n f:Nat) (args:List AV) (h:aa):Option (List AV×List Nat)→Option (AV×aa)
  | some p=>PU lm ss ms n f args h p.2 (S p.1)
  | none=>oN lm ss ms n f args h
theorem SZ (lm:List aU) (ss:List ai) (ms:List aU) (n f:Nat) (args:List AV) (h:aa) (ids:List Nat) (v:AV):PU lm ss ms n f args h ids (some v)=some (v,if mT v then h else kill h ids):=rfl
theorem N8 (lm:List aU) (ss:List ai) (ms:List aU) (n f:Nat) (args:List AV) (h:aa) (ids:List Nat):PU lm ss ms n f args h ids none=oN lm ss ms n f args h:=rfl
theorem Mm (S:List AV→Option AV) (lm:List aU) (ss:List ai) (ms:List aU) (n f:Nat) (args:List AV) (h:aa) (bs:List AV) (ids:List Nat):Rm S lm ss ms n f args h (some (bs,ids))=PU lm ss ms n f args h ids (S bs):=rfl
theorem Np (S:List AV→Option AV) (lm:List aU) (ss:List ai) (ms:List aU) (n f:Nat) (args:List AV) (h:aa):Rm S lm ss ms n f args h none=oN lm ss ms n f args h:=rfl
noncomputable def Bi (l:List ai) (lm:List aU) (ss:List ai) (ms:List aU) (n f:Nat) (args:List AV) (h:aa):Option (AV×aa):=Rm (jq l f) lm ss ms n f args h (gW (gr h 0 8) args)
theorem C8 (ss:List ai) (ms:List aU) (n f:Nat) (args:List AV) (h:aa):aw (cW ss ms) (n+1) f args h=Bi (oF (ss++nq) f) (lA ms f) ss ms n f args h:=by
  conv=>lhs;unfold aw
  have e:∀a,jq (oF (ss++nq) f) f a=(cW ss ms).zZ f a:=fun a=>ux f a _
  have e1:lV (lA ms f) f=(cW ss ms).Dg f:=funext fun a=>funext fun o=>vo f a o ms
  have e2:(cW ss ms).fn f=zW f:=rfl
  have key:ef ss ms n f args h=(match (cW ss ms).fn f with
      | none=>none
      | some F=>
        match ak (aw (cW ss ms) n) n F.code (args++List.replicate (F.ntmps - args.length) .undef) ⟨h.next,h.eg,h.next,h.next⟩ with
        | some (.exit _,_,_)=>none
        | some (_,fr,h')=>(fF fr h' F.results).map fun vs=>finish F.ez h (oneOf vs) h'
        | none=>none):=by
    rw[e2];unfold ef
    cases zW f with
    | none=>rfl
    | some F=>
      dsimp only;unfold iH
      cases ak (aw (cW ss ms) n) n F.code (args++List.replicate (F.ntmps - args.length) .undef) ⟨h.next,h.eg,h.next,h.next⟩ with
      | none=>rfl
      | some r=>
        obtain⟨ex,fr,h'⟩:=r;cases ex<;>first | rfl | (dsimp only;cases fF fr h' F.results<;>rfl)
  have key2:oN (lA ms f) ss ms n f args h=(match lr ((cW ss ms).Dg f) args h with
      | some r=>some r
      | none=>ef ss ms n f args h):=by
    unfold oN;rw[e1]
    cases lr ((cW ss ms).Dg f) args h with
    | none=>rfl
    | some r=>rfl
  rw[key] at key2;unfold Bi
  cases hz:gW (gr h 0 8) args with
  | none=>rw[Np];exact key2.symm
  | some p=>
    obtain⟨args',ids⟩:=p;rw[Mm];dsimp only[Option.bind];rw[e]
    cases hp:(cW ss ms).zZ f args' with
    | none=>rw[N8];exact key2.symm
    | some v=>rfl
theorem K1 (lm:List aU) (ss:List ai) (ms:List aU) (n f:Nat) (args:List AV) (h:aa):Bi [] lm ss ms n f args h=oN lm ss ms n f args h:=by
  unfold Bi
  cases gW (gr h 0 8) args with
  | none=>rfl
  | some p=>rfl
theorem JY (s:ai) (lm:List aU) (ss:List ai) (ms:List aU) (n f:Nat) (args:List AV) (h:aa) (hf:s.f=f):Bi [s] lm ss ms n f args h=Rm s.S lm ss ms n f args h (gW (gr h 0 8) args):=by
  unfold Bi
  have e:jq [s] f=s.S:=funext fun a=>by
    simp only[jq,hf,if_true];cases s.S a<;>rfl
  rw[e]
theorem LB (ss:List ai) (ms:List aU) (n f:Nat) (args:List AV) (h:aa):oN [] ss ms n f args h=ef ss ms n f args h:=by
  unfold oN;have e:lV [] f=fun _ _=>none:=rfl
  rw[e,yq];rfl
theorem JH (m:aU) (ss:List ai) (ms:List aU) (n f:Nat) (args:List AV) (h:aa) (hf:m.f=f):oN [m] ss ms n f args h=Ws ss ms n f args h (lr m.S args h):=by
  unfold oN
  have e:lV [m] f=m.S:=funext fun a=>funext fun o=>by
    simp only[lV,hf,if_true];cases m.S a o<;>rfl
  rw[e]
theorem Q7 (ss:List ai) (ms:List aU) (n:Nat) (F:br) (args:List AV) (h:aa) (hle:args.length≤F.ntmps):iH ss ms n F args h=
  match ak (aw (cW ss ms) n) n F.code (FM F.ntmps (wO 0 args)) ⟨h.next,h.eg,h.next,h.next⟩ with
    | some (.exit _,_,_)=>none
    | some (_,fr,h')=>(match fF fr h' F.results with | some vs=>some (finish F.ez h (oneOf vs) h') | none=>none)
    | none=>none:=by
  rw[←Ij args hle];rfl
theorem Ch (ss:List ai) (ms:List aU) (n:Nat) (args:List AV) (h:aa):ef ss ms n 15 args h=iH ss ms n TM args h:=rfl
theorem On (ss:List ai) (ms:List aU) (n:Nat) (args:List AV) (h:aa):ef ss ms n 20 args h=iH ss ms n c20 args h:=rfl
theorem CD (ss:List ai) (ms:List aU) (n:Nat) (args:List AV) (h:aa):ef ss ms n 21 args h=iH ss ms n c21 args h:=rfl
theorem Mi (ss:List ai) (ms:List aU) (n:Nat) (args:List AV) (h:aa):ef ss ms n 24 args h=iH ss ms n c24 args h:=rfl
theorem Ht (ss:List ai) (ms:List aU) (n:Nat) (args:List AV) (h:aa):ef ss ms n 25 args h=iH ss ms n Uv args h:=rfl
theorem Pc (ss:List ai) (ms:List aU) (n:Nat) (args:List AV) (h:aa):ef ss ms n 44 args h=iH ss ms n V1 args h:=rfl
theorem jH (ss:List ai) (ms:List aU) (n:Nat) (args:List AV) (h:aa):ef ss ms n 45 args h=iH ss ms n FY args h:=rfl
theorem O5 (ss:List ai) (ms:List aU) (n:Nat) (args:List AV) (h:aa):ef ss ms n 49 args h=iH ss ms n c49 args h:=rfl
theorem B3 (ss:List ai) (ms:List aU) (n:Nat) (args:List AV) (h:aa):ef ss ms n 50 args h=iH ss ms n T5 args h:=rfl
theorem fG (ss:List ai) (ms:List aU) (n:Nat) (args:List AV) (h:aa):ef ss ms n 55 args h=iH ss ms n zR args h:=rfl
theorem Cu (ss:List ai) (ms:List aU) (n:Nat) (args:List AV) (h:aa):ef ss ms n 56 args h=iH ss ms n Sl args h:=rfl
theorem u7 (ss:List ai) (ms:List aU) (n:Nat) (args:List AV) (h:aa):ef ss ms n 57 args h=iH ss ms n Ql args h:=rfl
theorem TE (ss:List ai) (ms:List aU) (n:Nat) (args:List AV) (h:aa):ef ss ms n 73 args h=iH ss ms n Wq args h:=rfl
theorem F5 (ss:List ai) (ms:List aU) (n:Nat) (args:List AV) (h:aa):ef ss ms n 80 args h=iH ss ms n c80 args h:=rfl
theorem Hk (ss:List ai) (ms:List aU) (n:Nat) (args:List AV) (h:aa):ef ss ms n 81 args h=iH ss ms n Uw args h:=rfl
theorem TU (ss:List ai) (ms:List aU) (n:Nat) (args:List AV) (h:aa):ef ss ms n 83 args h=iH ss ms n WK args h:=rfl
theorem OV (ss:List ai) (ms:List aU) (n:Nat) (args:List AV) (h:aa):ef ss ms n 96 args h=iH ss ms n UR args h:=rfl
theorem gX (ss:List ai) (ms:List aU) (n:Nat) (args:List AV) (h:aa):ef ss ms n 97 args h=iH ss ms n CX args h:=rfl
theorem gV (ss:List ai) (ms:List aU) (n:Nat) (args:List AV) (h:aa):ef ss ms n 98 args h=iH ss ms n CN args h:=rfl
theorem eK (ss:List ai) (ms:List aU) (n:Nat) (args:List AV) (h:aa):ef ss ms n 133 args h=iH ss ms n mw args h:=rfl
theorem Cg (ss:List ai) (ms:List aU) (n:Nat) (args:List AV) (h:aa):ef ss ms n 134 args h=iH ss ms n K5 args h:=rfl
theorem Jv (ss:List ai) (ms:List aU) (n:Nat) (args:List AV) (h:aa):ef ss ms n 137 args h=iH ss ms n Oj args h:=rfl
theorem w7 (ss:List ai) (ms:List aU) (n:Nat) (args:List AV) (h:aa):ef ss ms n 138 args h=iH ss ms n c138 args h:=rfl
theorem tt (ss:List ai) (ms:List aU) (n:Nat) (args:List AV) (h:aa):ef ss ms n 139 args h=iH ss ms n c139 args h:=rfl
theorem lN (ss:List ai) (ms:List aU) (n:Nat) (args:List AV) (h:aa):ef ss ms n 140 args h=iH ss ms n yI args h:=rfl
theorem kI (ss:List ai) (ms:List aU) (n:Nat) (args:List AV) (h:aa):ef ss ms n 141 args h=iH ss ms n c141 args h:=rfl
theorem xq (ss:List ai) (ms:List aU) (n:Nat) (args:List AV) (h:aa):ef ss ms n 142 args h=iH ss ms n HS args h:=rfl
end Go.Proofs.YtjmeonoabiliiaaGreatDoor
