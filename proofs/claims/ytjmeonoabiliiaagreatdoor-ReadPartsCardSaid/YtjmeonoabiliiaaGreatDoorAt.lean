import Derived.Test.YtjmeonoabiliiaaGreatDoorEnv
import Derived.Test.YtjmeonoabiliiaaGreatDoorFast
import Derived.Test.YtjmeonoabiliiaaGreatDoorArg
set_option linter.unusedVariables false
set_option linter.unusedSimpArgs false
set_option linter.unusedSectionVars false
set_option maxHeartbeats 16000000
set_option maxRecDepth 100000

namespace Go.Proofs.YtjmeonoabiliiaaGreatDoor
open Go Sz
attribute [simp] Ut Sj Rq Ta Pa PI U0 Ps OY Ny MI QC QM O9 ML MA SX Ra R1 Rg Sp OM OF Qq QA O1 CK Da Cx AE Ch Ey CN Kz u5 Bi
 JV GD Le JU KM IS Gz Mc L4 Lh Jg I3 Ke JE KT J7 K6 Lp H3 Hc Hs Lk IT Lc JA JI IX JQ H2 Hb KF I8 KR Is dP nD Ng K0 K1 Hv J0
 SD Ku OB Kb AM OH M1 Ph Bo Hd uB pick Oa Ot pU wQ BZ allM P7 sw HO Dy GK Hz Dg Hr JD Dx IW Ho EC Iu A2 K4 Ej BH Fe Kv QB set_mk LZ GY KO qY C6 AQ NG Mi oneOf Iy GC I4 Nd MZ Kk LI Ov KS OE IV Nf GA Oz I6 HN LM Mz Ii Jw GQ Jn Ih DH Dq AV.refs AV.aq AN H0 wU Il DX Ro Si S7 Sf nj Ll CI DZ ji Ip gi Bc Qm O5 keeps kq cF lW AV.top nN h0 HC BL xo xz vS sc zK x5 gp nA l7 List.idxOf_cons List.idxOf_nil Ha qB Cz Eg DL Jy Ld GB qd GL IP Ki GH MG DR JR EB GW GP EL JB GV MW zR H9 Ia HF Hp Rw SH Kn J3 OC Kt DW uH Ig MX CQ Mx R3 MS MJ IL ae K8 Ic Jt HD Ib Ev aj Nn LK ag KE QP sig KQ HZ KH Hi join j7 tD bj.refs AV.top
attribute [simp low] lH
attribute [simp] sM dC sF jb sL iZ sN yc sI sX sK ID sY sP N9 sO OQ sV sS sE Im sH NU sJ S3 SM sU DC sZ QX bT xV bI j8 bU ml bS Di bR On P5 iv kI od DE Tu sT
end Go.Proofs.YtjmeonoabiliiaaGreatDoor
