import Derived.Test.YtjmeonoabiliiaaGreatDoorEnv
import Derived.Test.YtjmeonoabiliiaaGreatDoorFast
import Derived.Test.YtjmeonoabiliiaaGreatDoorArg
set_option linter.unusedVariables false
set_option linter.unusedSimpArgs false
set_option linter.unusedSectionVars false
set_option maxHeartbeats 16000000
set_option maxRecDepth 100000

namespace Go.Proofs.YtjmeonoabiliiaaGreatDoor
open Go Sz
attribute [simp] TO R3 Se QY OD OK UH PD Pu Lq Nr Qc PO Pe LM LF RO Rm SA SN QL OV PG O5 Ow Oo Ba Dp B4 zX Cy Dt Bq KF uV AS
 Ko Gv KQ IN JE Iu GL Nc M8 IX Kh J3 KG IQ It Ig JF Ju Gl Hw GN KA Ii Jk J2 Jo JN KW Hd Gz JQ I0 J7 Ge eC mW LP Jb KP HM KD
 QZ JT OQ JO Ck Pa L9 OF AP G5 uH pick Nz Ps pK wO BO allM PY rI Hx CB Hp HK D5 Ho Ir CF IV G6 DC Hz BR KM D3 AA Fg J0 Qg set_mk Ng Hc Ka qJ D9 AF LD Mn oneOf Gq G7 KY MK Mt KH Lw Qp Jp OR Ix Mx Hu P9 Kx Hy MV Mg Hm Iz Hg Jv HD Dx Dm AV.refs AV.ai AB H6 wW G0 DE QV Sh SC QU ny Ip Cv Dh iW F9 fW Bl NZ O3 keeps kj cN lJ AV.top mT h0 HY Cd vI wb wi rZ zA xL gi nv lR List.idxOf_cons List.idxOf_nil Gh qF BB CX Dr Km Jl GQ pU HT JB I4 GA Ma DG Iq DA Gr HI C8 Kv Gu L1 Ah Gj F8 H2 H5 Sg SK Kl Ih Pv IH DR uu Hk MW BD MX Sx LJ L5 Kg af Jq GH Jw Gf Hq DX aq LU LY ag Jr Qz sig K0 GG II Gx join j5 s8 bf.refs AV.top
attribute [simp low] mB
attribute [simp] sM dz sF iT sL iP sN CA sI sX sK H7 sY sP PJ sO Oq sV sS sE Gd sH NN sJ Q7 sU DD sZ S8 bT ya bI kf bU mw bS Dy bR QG OG il kC pg KO S3 sT
end Go.Proofs.YtjmeonoabiliiaaGreatDoor
