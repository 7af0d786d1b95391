import Derived.Test.YtjmeonoabiliiaaGreatDoorEnv
import Derived.Test.YtjmeonoabiliiaaGreatDoorFast
import Derived.Test.YtjmeonoabiliiaaGreatDoorArg
set_option linter.unusedVariables false
set_option linter.unusedSimpArgs false
set_option linter.unusedSectionVars false
set_option maxHeartbeats 16000000
set_option maxRecDepth 100000

namespace Go.Proofs.YtjmeonoabiliiaaGreatDoor
open Go Sz
attribute [simp] Xt Wo U8 VC SI Tw X7 TL TY QP Q9 SR TF TC Qz PX Vc We Wm Wl VV Su Sj Tu Ua SK D3 GZ D6 CZ Fv Ic DO Oc wU DQ
 ME Lb L4 Nj Nh Ol KQ Qo Q1 OG Oo Nz L8 L9 L2 LU My NK LF Kq Lz Oy Ob OJ MO Oh M4 L7 Ls JT M6 Oa Mn KW jy BZ P6 Nx NW J9 Mv
 UM MJ Tk Od DG Tv Rk Tx DP KE wJ pick Fy TT qE s5 xS allM S7 wO JA He Lj KG GY J4 Pl GX Mr LN Hs Ku ED Mc Ie D8 IL M8 fJ set_mk Ri KF NP rF HC Fz QO Qt oneOf JQ Lv LX Ra Ro LZ Qc Sn NU TK LV Rp J1 Si Mz Lc QQ PS Lw NF Kd MZ JO HH HK AV.refs AV.af Fk Ll x6 Kv Gn Wn Wd VL UD nq O9 DZ G4 gm Li cY Fo T6 So keeps iw yL l8 AV.top nC h0 Kf EW y9 xU yo Cv cB Ad fO ob mr List.idxOf_cons List.idxOf_nil LD qZ Fq F7 G6 OL N5 KZ kz JS Ok OW KM Q5 Gb Ps GN J8 Kw Gh Nn JX Q7 C8 K1 JY LB JH Vf VX Mm Np SZ N8 yP ox Lx Qh E0 QJ Vz P9 PI Ms aN M5 Kk O7 Lh KK GU bm bL Jk aY bw SG sig Pa LI MV Lt join jV uJ aC.refs AV.top
attribute [simp low] jZ
attribute [simp] sM cA sF ek sL eh sN Gx sI sX sK LQ sY sP MS sO O6 sV sS sE wY sH R2 sJ Uy sQ Py sU Hc sZ Pu bT zP bI gK bU mF bS uz bR WR S5 gn ja lH LJ Wc sT
end Go.Proofs.YtjmeonoabiliiaaGreatDoor
