import Derived.Test.YtjmeonoabiliiaaGreatDoorEnv
import Derived.Test.YtjmeonoabiliiaaGreatDoorFast
import Derived.Test.YtjmeonoabiliiaaGreatDoorArg
set_option linter.all false
set_option maxHeartbeats 16000000
set_option maxRecDepth 100000
namespace Go.Proofs.YtjmeonoabiliiaaGreatDoor
open Go Sz
attribute [simp] alN ajp aiP aiu aeE agn trF aeW af6 abq abJ afp afR afC aao abu aiS ah7 aiT ajj ajr adY aej aeK aeM afW Lz Qv Ld JZ LW Ph Lr Zx C1 Nl
 XO SR Zg Xa V4 WC TT aan abC Zy Xs ZA XW Xj Yt WI X2 Y8 T8 Uu Us XP X4 V9 Wn Yi WA WW TD Vr Yj YN Yl Ub dZ o7 acp Xk Yo TB Xm
 ajs XG agd XI K5 ae8 abr afH ND S9 Ct pick Nv afc xz zk F3 allM afe zw Um Pw Vl Uw OT Vt Xp OY Yx To Pj Tq LI ZD Pg Lx Sv Wq jo set_mk acj U5 Zd yf O3 LG abc aaQ oneOf Vf Ui XJ abw aaJ Xx aa9 af5 XH afa YC ab4 TQ aey Wh Uf abi abE Tu YY UD Yq Tj Ow Qk AV.aJ AV.ah NV Vj FF Ux Qq ahN ahQ air aji tW Xq ME OP nf UO eH Li agb aeQ aE lT dm oD AV.top tD h0 TM Mj Ep FV Eo zI dz GR jw ug rh List.idxOf_cons List.idxOf_nil TF x5 Mr Pd PW XK Xo T4 oX Tv YW WL Uy abX Qe Y4 ON U7 Vu PC YQ Tl acu Kh SQ Un TL UT ajz aii Wt YS aem YF Po CG S4 aa1 NP aaq ah1 acf aaS Zr ak YA T1 V5 SY T2 QF au cV abM aq cA ae6 sig Yg T7 Y1 SO join oE Bj aT.aJ AV.top
attribute [simp low] kh
attribute [simp] aN C3 zF mJ sM jO sF jc sL iL sN Og sI sX sK TW sY sP gsP sO gsO sV sS sE J2 sH gsH sJ sQ gsQ sU gsU sZ gsZ bT Uj bI rm bU Of bS F6 bR ca0 lI uj pA ZC ca3 sT mE CT LB wsD sA
end Go.Proofs.YtjmeonoabiliiaaGreatDoor
