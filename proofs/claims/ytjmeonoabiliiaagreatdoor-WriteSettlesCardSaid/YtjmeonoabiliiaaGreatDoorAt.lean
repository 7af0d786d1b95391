import Derived.Test.YtjmeonoabiliiaaGreatDoorEnv
import Derived.Test.YtjmeonoabiliiaaGreatDoorFast
import Derived.Test.YtjmeonoabiliiaaGreatDoorArg
set_option linter.all false
set_option maxHeartbeats 16000000
set_option maxRecDepth 100000
namespace Go.Proofs.YtjmeonoabiliiaaGreatDoor
open Go Sz
attribute [simp] ajp ag3 agr af5 acs ad5 trF acL adQ Zu ZL adb adF adq Yw Zw agw afK agx agW ag5 abH ab3 acA acC adJ Kd OK JV IJ Kw NA J7 XD B7 LN
 VI QY Xl Va T2 UC RP Yv ZE XE Vq XF VO Vi Wm UH VU Xe R3 So Sn VJ VW T8 Uq V8 UB UZ Rz Tn V9 WM Wa R6 lW vC aal Vj Wd Ry Vl
 ag6 VB adV VD JQ acW Zv adx L6 Rb BK pick W4 ac0 wD DJ L9 allM ac2 yO Sg NR Tf Sr Nj Tp Vo Np Wq Ro NB Rp Kk XH Nz Kb QB Uu adl set_mk aah SY Xi xA Nr Ki Zj YW oneOf S9 Se VE Zy YS Vv Zg adP VC acY Wy Z5 RN acn Uj Sa Zn ZG Rr WY SB Wj Rk MW OC AV.aK AV.aj Mm Td EN Ss OG afq afu af2 agV sC Vp K8 Ng mC SH eC JZ adT acG aQ nW fA p9 AV.top sc h0 RJ KR Dz E2 Dy yZ dx FP jd th qC List.idxOf_cons List.idxOf_nil RB xi KY Ny Od VF Vn RZ oj Rs WX UL Su ZY Ox W8 Nc SZ Tq NV WO Rm aaq I0 QX Sh RH SM ahd afU Ux WR ab7 WB NH BT Q6 Y7 Mf Yy afE aae YY Xy an Wv RW T3 Q3 RX OS aL dp ZP az cF acU sig V6 R2 W6 QW join nR AK aS.aK AV.top
attribute [simp low] mj
attribute [simp] aP Cb xu nv sM iu sF jo sL jb sN MI sI sX sK RS sY sP gsP sO gsO sV sS sE ML sH gsH sJ gsJ sQ gsQ sU gsU sZ gsZ bT MH bI tU bU RR bS Fa bR QJ kX tp ov Tx ca3 sT lB Dn MG Yh uk
end Go.Proofs.YtjmeonoabiliiaaGreatDoor
