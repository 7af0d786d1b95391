import Derived.Test.YtjmeonoabiliiaaGreatDoorEnv
import Derived.Test.YtjmeonoabiliiaaGreatDoorFast
import Derived.Test.YtjmeonoabiliiaaGreatDoorArg
set_option linter.all false
set_option maxHeartbeats 16000000
set_option maxRecDepth 100000
namespace Go.Proofs.YtjmeonoabiliiaaGreatDoor
open Go Sz
attribute [simp] ai1 agI af2 afD ab7 adW trF acn adF YT Zb acS adq ac6 XC YW af5 afi af6 agz agL abl abI acd ace ads Jz NV Jm Ia JT MU Ju Wv BJ K9
 UE Qq Wc T3 S9 TB Re XA Y4 Wx Uk Wz UK Ua Vl TD UQ VZ RF RE US U6 Tz TT QX Su U7 VE U8 Rp gn BX ZT Ub Vc QW
 agM Uv adK Ux Jh acA YU adg Ln QE Bm pick aaU acF wb C5 Lp allM acH ya Ry M7 Sj RJ Mz Sv Uh MH Vo QO MV QP JJ WD MT Jw P6 Tw ac0 set_mk ZL R6 V8 wV MM JG YE Ya oneOf Sd Rw Uy YY X4 Up YA adE Uw acD Vt Zx Rb abZ Tj Rt YM Y5 QR VR RS Vj QK Ma NN AV.aK AV.aw Lz Sg Eg RL NS aeY ae2 afA agy sr Uj Ko Mv mM RW jB Jo adI ach az ob ck p8 AV.top rP h0 Q6 Ka CV EB CR yd HH Fb jK sD qy List.idxOf_cons List.idxOf_nil QZ wL Ke MR Nv UA Rk aav QS VM TI RN Zr NG VT Ms R8 Sx Ng VG QM ZX Iv Qp Rz Q4 RZ agY afp Ty VI abL Vx MZ By QA Yn Lw XE afa ZJ Yc Wp af Vq Ri Ta Qx Rj N4 aj YO Zj ah UO acy sig U3 Rm VS Qo join nW zQ bp.aK AV.top
attribute [simp low] iA
attribute [simp] aE n5 zR iP sM dD sF ik sL ij sN Nj sI sX sK MY sY sP gsP sO gsO sV sS sE I4 sH Yd sJ gsJ gsQ sU Nx sZ gsZ bT xG bI lE bU qT bS Bz bR ca0 abE im l6 ow WB ca3 sT ju qq JA LA ll
end Go.Proofs.YtjmeonoabiliiaaGreatDoor
