/- Printed by a program of mine: the bodies of the program's functions aa terms of the primitives of the abstract executor, each shown equal by the kernel. -/
import Derived.Test.YtaljafbgbfmcbaaGreatProg
import Derived.Test.YtaljafbgbfmcbaaGreatHistoryMadeAe1
import Derived.KernelRfl
namespace Go.Proofs.YtaljafbgbfmcbaaGreat
open Go Go.Ae
abbrev Dc : Type :=AV×AV×AV×Unit
set_option maxRecDepth 100000
noncomputable section
attribute [local irreducible] zU JB w4 zn qH Gt Kg yt Ji J6 KV X8 jK jr jw j6 wh Uc sh UP sG QI G3 Nf Bk XR xC YQ wR Jc wn kH YX rJ J4 zc xd YG vt xH K7 KC XZ NO KY Vb Cz MU NI Mq xS JT Nz kA Z8 Q5 Xv Pn OV Po zT vL Kh AV.undef
set_option maxHeartbeats 40000000
def P3 : Pl :=(.n none .z (.n none .z (.n none .z (.n none .z (.n none (.n none .z (.n none (.n (some [11,10,9,3,2]) (.n none (.n none (.r [[37,35,11,10,9,3,2]]) .z) (.n none (.n none (.n none .z (.n none (.n (some [12,11,10,9,3,2]) (.n none .z (.n none (.n none (.r [[12,11,10,9,3,2]]) .z) .z)) .z) .z)) .z) .z)) .z) .z)) (.n none .z (.n none (.n none (.r [[79,75,13,10,3]]) .z) (.n none (.n none .z (.n none (.n (some [14,13,10,3]) .z .z) .z)) .z))))))))
def S3 : Bo Tryz.prog P3 3 :=λ_ _ _ _ _ _=>.mk _
def P4 : Pl :=(.n none .z (.n none .z (.n none .z (.n none .z (.n none (.r [[29,22,3,2,1],[33,31,3,2,1],[38,35,3,2,1],[44,40,3,2,1],[49,46,3,1],[55,51]]) .z)))))
def S4 : So Tryz.prog P4 4 :=λ_ _=>.mk _
def P5 : Pl :=(.n none .z (.n none .z (.n none .z (.n none .z (.n none .z (.n none .z (.n none (.n none .z (.n none (.n (some [7,6,5,1]) (.n none .z (.n none (.n none (.n none .z (.n (some [8,7,6,5,1]) .z (.r [[7,6,5,1]]))) .z) .z)) .z) .z)) .z)))))))
def S5 : dM Tryz.prog P5 5 :=λ_ _ _ _=>.mk _
def P6 : Pl :=(.n none .z (.n none (.r [[3,2,1]]) (.n none (.r [[3,2]]) .z)))
def S6 : cX Tryz.prog P6 6 :=λ_ _ _=>.mk _
def P7 : Pl :=(.n none .z (.n none .z (.n none (.n none .z (.n none (.n (some [8,7,2,1,0]) (.n none (.n none (.r [[17,15,8,7,2,1,0]]) .z) (.n none (.n none (.n none .z (.n none (.n none .z (.n none (.n (some [10,9,8,7,2,1,0]) (.n none (.n none (.r [[30,28,10,9,8,7,2,1,0]]) .z) .z) .z) .z)) .z)) .z) .z)) .z) .z)) .z)))
def S7 : lu Tryz.prog P7 7 :=λ_ _ _ _ _=>.mk _
def P8 : Pl :=(.n none .z (.n none .z (.n (some [1,0]) .z .z)))
def S8 : lu Tryz.prog P8 8 :=λ_ _ _ _ _=>.mk _
def P9 : Pl :=(.n none .z (.n none (.n none (.r [[18,11,2,1,0]]) .z) (.n none .z (.n none .z (.n none .z (.n none .z (.n none (.r [[1,0]]) (.n (some []) (.n none .z (.n none (.n none .z (.n none (.n (some [8,1,0]) (.n none .z (.n none (.n (some [8,1,0]) .z .z) .z)) .z) .z)) .z)) .z))))))))
def S9 : lu Tryz.prog P9 9 :=λ_ _ _ _ _=>.mk _
def P10 : Pl :=(.n none .z (.n none .z (.n none (.n none .z (.n none (.n (some [4,3,0]) .z .z) .z)) .z)))
def S10 : cX Tryz.prog P10 10 :=λ_ _ _=>.mk _
def P11 : Pl :=(.n none .z (.n none .z (.n none (.n none .z (.n none (.n (some [16,15,14,3,0]) .z .z) .z)) (.n none (.n none .z (.n none (.n (some [28,27,26,3,0]) (.n none .z (.n none .z (.n none (.n none (.n none .z (.n none .z (.n none (.n (some [35,34,33,28,27,26,7,6,3,0]) (.n none .z (.n none .z (.n none (.n none (.n none .z (.n none (.r [[48,43,35,34,33,28,27,26,8,7,6,3,0],[59,50,35,34,33,28,27,26,7,6,3,0]]) .z)) .z) .z))) .z) .z))) .z) .z))) .z) .z)) .z))))
def S11 : cX Tryz.prog P11 11 :=λ_ _ _=>.mk _
def P12 : Pl :=(.n none .z (.n none .z (.n none (.n none .z (.n none (.n (some [15,14,13,5,1]) (.n none .z (.n none .z (.n none (.n (some [15,14,13,5,1]) (.n none .z (.n none (.n none .z (.n none (.n (some [25,24,23,15,14,13,7,5,1]) (.n none .z (.n none .z (.n none (.n none (.n none .z (.n none (.r [[37,32,25,24,23,15,14,13,9,7,5,1],[47,39,25,24,23,15,14,13,7,5,1]]) .z)) .z) .z))) .z) .z)) .z)) .z) .z))) .z) .z)) .z)))
def S12 : dM Tryz.prog P12 12 :=λ_ _ _ _=>.mk _
def P13 : Pl :=(.n none .z (.n none .z (.n none (.n none .z (.n none (.n (some [21,20,19,7,1]) (.n none .z (.n none .z (.n none (.n (some [21,20,19,7,1]) .z .z) .z))) .z) .z)) .z)))
def S13 : lu Tryz.prog P13 13 :=λ_ _ _ _ _=>.mk _
def P14 : Pl :=(.n none .z (.n none .z (.n none (.n none .z (.n none (.n (some [5,1,0]) .z .z) .z)) .z)))
def S14 : dM Tryz.prog P14 14 :=λ_ _ _ _=>.mk _
def P15 : Pl :=(.n none .z (.n none .z (.n none (.n none .z (.n none (.n (some [10,9,3,1]) .z .z) .z)) .z)))
def S15 : cX Tryz.prog P15 15 :=λ_ _ _=>.mk _
def P16 : Pl :=(.n none .z (.n none (.n none (.n none .z (.n none .z (.n none (.r [[16,3,2]]) .z))) .z) .z))
def S16 : dM Tryz.prog P16 16 :=λ_ _ _ _=>.mk _
def P17 : Pl :=.z
def S17 : lu Tryz.prog P17 17 :=λ_ _ _ _ _=>.mk _
def P18 : Pl :=.z
def S18 : cX Tryz.prog P18 18 :=λ_ _ _=>.mk _
def P19 : Pl :=.z
def S19 : cX Tryz.prog P19 19 :=λ_ _ _=>.mk _
def P20 : Pl :=(.n none .z (.n none .z (.n none (.r [[8,2]]) (.n none (.n none .z (.n none (.n (some [9,8,2]) (.n none (.n none (.r [[27,25,9,8,2]]) .z) .z) .z) .z)) .z))))
def S20 : lu Tryz.prog P20 20 :=λ_ _ _ _ _=>.mk _
def P21 : Pl :=(.n none .z (.n none .z (.n none .z (.n none (.n none .z (.n (some [8,7,6]) (.n (some [9,8,7,6,2,1,0]) (.n none .z (.n none (.n none (.n none .z (.n none .z (.n none .z (.n none .z (.n (some [9,8,7,6,2,1,0]) (.n none (.r [[46,44,12,11,10,9,8,7,6,2,1,0]]) (.n none .z (.n none (.r [[60,58,12,11,10,9,8,7,6,2,1,0],[64,62,12,11,10,9,8,7,6,2,1,0]]) (.n none .z (.n none (.r [[78,76,12,11,10,9,8,7,6,2,1,0],[82,80,12,11,10,9,8,7,6,2,1,0]]) (.n none .z (.n none (.r [[95,93,12,11,10,9,8,7,6,2,1,0],[103,97,12,11,10,9,8,7,6,2,1,0]]) (.n none .z (.n none (.r [[114,112,12,11,10,9,8,7,6,2,1,0],[118,116,12,11,10,9,8,7,6,2,1,0],[122,120,12,10,9,8,7,6,2,1,0]]) (.n none .z (.n none (.r [[140,138,12,10,9,8,7,6,2,1,0]]) (.n none .z (.n none (.r [[158,156,12,10,9,8,7,6,2,1,0]]) (.n none .z (.n none (.r [[176,174,12,10,9,8,7,6,2,1,0]]) (.n none (.r [[9,8,7,6,2,1,0]]) (.n none (.r [[195,193,10,9,8,7,6,2,1,0]]) (.n none (.r [[9,8,7,6,2,1,0]]) .z)))))))))))))))))) .z))))) .z) .z)) .z) .z)) (.n none (.n none (.n (some [8,7,6]) .z .z) .z) (.n (some [7,6]) .z .z))))))
def S21 : lu Tryz.prog P21 21 :=λ_ _ _ _ _=>.mk _
def P22 : Pl :=.z
def S22 : cX Tryz.prog P22 22 :=λ_ _ _=>.mk _
def P23 : Pl :=.z
def S23 : cX Tryz.prog P23 23 :=λ_ _ _=>.mk _
def P24 : Pl :=(.n none .z (.n none .z (.n (some []) (.n none .z (.n none (.n none .z (.n none .z (.n (some [3,2,0]) (.n none (.r [[37,30,3,2,0]]) .z) .z))) (.n none .z (.n none (.n none (.n none (.r [[64,61,5,2,0],[71,66,5,2,0],[78,71,66,5,2,0],[79,66,5,2,0]]) .z) .z) (.n none .z (.n none (.n none .z (.n (some [0]) .z .z)) .z)))))) .z)))
def S24 : Bo Tryz.prog P24 24 :=λ_ _ _ _ _ _=>.mk _
def P25 : Pl :=(.n none .z (.n none .z (.n none (.n none .z (.n (some [5,4,0]) (.n (some [10,8,5,4,3,0]) .z (.n none .z (.n (some [16,8,5,4,3,0]) .z (.n none .z (.n (some [23,8,5,4,3,0]) .z (.n none .z (.n (some [29,5,4,3,0]) .z (.n none (.n none (.r [[43,35,5,4,3,0]]) .z) .z)))))))) .z)) (.n (some [5,4]) .z .z))))
def S25 : dM Tryz.prog P25 25 :=λ_ _ _ _=>.mk _
def P26 : Pl :=(.n none (.n none (.r [[18,12,2,1,0],[23,18,12,2,1,0],[25,12,2,1,0]]) .z) (.n none .z (.n none (.n (some [6,2,1,0]) (.n none .z (.n none (.n (some [6,2,1,0]) (.n none (.n none (.r [[74,58,6,2,1,0]]) .z) .z) .z) .z)) .z) .z)))
def S26 : lu Tryz.prog P26 26 :=λ_ _ _ _ _=>.mk _
def P27 : Pl :=(.n none .z (.n none .z (.n (some [3]) (.n none (.r [[21,14,3,0]]) .z) .z)))
def S27 : cX Tryz.prog P27 27 :=λ_ _ _=>.mk _
def P28 : Pl :=(.n none .z (.n none .z (.n none .z (.n none (.n none .z (.n none (.n (some [23,22,21,5]) (.n none .z (.n none .z (.n none (.n (some [23,22,21,5]) (.n none .z (.n none (.r [[35,30,23,22,21,7,5]]) .z)) .z) .z))) .z) .z)) .z))))
def S28 : dM Tryz.prog P28 28 :=λ_ _ _ _=>.mk _
def P29 : Pl :=.z
def S29 : dM Tryz.prog P29 29 :=λ_ _ _ _=>.mk _
def P30 : Pl :=.z
def S30 : lu Tryz.prog P30 30 :=λ_ _ _ _ _=>.mk _
def P31 : Pl :=(.n none .z (.n none (.r [[10,6]]) .z))
def S31 : cX Tryz.prog P31 31 :=λ_ _ _=>.mk _
def P32 : Pl :=(.n none .z (.n none .z (.n none .z (.n none .z (.n none .z (.n (some [2,1]) .z .z))))))
def S32 : cX Tryz.prog P32 32 :=λ_ _ _=>.mk _
def P33 : Pl :=.z
def S33 : cX Tryz.prog P33 33 :=λ_ _ _=>.mk _
def P34 : Pl :=(.n none .z (.n none .z (.n none (.n none .z (.n none (.n none .z (.n none (.n none (.r [[5,4]]) .z) .z)) .z)) (.n none (.r [[5,4]]) .z))))
def S34 : dM Tryz.prog P34 34 :=λ_ _ _ _=>.mk _
def P35 : Pl :=.z
def S35 : cX Tryz.prog P35 35 :=λ_ _ _=>.mk _
def P36 : Pl :=(.n none .z (.n none (.r [[5,4,3,2,1]]) (.n none .z (.n none .z (.n none (.n none .z (.n none (.n (some [23,22,7,6,5,4,3,2,1]) .z (.n none .z (.n none .z (.n none .z (.n none .z (.n none .z (.n none .z (.n none .z (.n (some [54,22,7,6,4,3,2,1]) .z (.n none .z (.n (some [62,22,7,6,4,3,2,1]) .z (.n none .z (.n none .z (.n none .z (.n none .z (.n none .z (.n (some [86,22,7,6,4,3,2]) .z .z))))))))))))))))) .z)) .z)))))
def S36 : cX Tryz.prog P36 36 :=λ_ _ _=>.mk _
def P37 : Pl :=.z
def S37 : cX Tryz.prog P37 37 :=λ_ _ _=>.mk _
def P38 : Pl :=(.n none .z (.n none .z (.n none .z (.n none (.n none .z (.n none (.n (some [3,2,0]) .z .z) .z)) .z))))
def S38 : cX Tryz.prog P38 38 :=λ_ _ _=>.mk _
def P39 : Pl :=(.n none .z (.n none .z (.n none .z (.n none .z (.n (some []) (.n none .z (.n none .z (.n none .z (.n none (.n none (.r [[0]]) .z) (.n none .z (.n none .z (.n none .z (.n none .z (.n none .z (.n none .z (.n none .z (.n none (.n none .z (.n (some [0]) (.n none (.r [[91,82,0]]) .z) (.n none .z (.n (some []) (.n none .z (.n none .z (.n (some [116,0]) .z .z))) .z)))) .z)))))))))))) .z)))))
def S39 : dM Tryz.prog P39 39 :=λ_ _ _ _=>.mk _
def P40 : Pl :=(.n none (.r [[1,0]]) (.n none .z (.n none .z (.n none .z (.n (some []) (.n none .z (.n none (.n none .z (.n none (.n none (.r [[64,52,6,1,0]]) .z) .z)) .z)) .z)))))
def S40 : lu Tryz.prog P40 40 :=λ_ _ _ _ _=>.mk _
def P41 : Pl :=(.n none .z (.n (some [4,1,0]) .z .z))
def S41 : dM Tryz.prog P41 41 :=λ_ _ _ _=>.mk _
def P42 : Pl :=(.n (some [1,0]) .z .z)
def S42 : dM Tryz.prog P42 42 :=λ_ _ _ _=>.mk _
def P43 : Pl :=(.n none .z (.n none (.n none (.r [[16,8,4,3,0]]) .z) .z))
def S43 : dM Tryz.prog P43 43 :=λ_ _ _ _=>.mk _
def P44 : Pl :=(.n none .z (.n none (.n none (.r [[16,8,4,3,0]]) .z) .z))
def S44 (c : CV) (a0 a1 : AV) (h : AH) : R :=
J4 h 46 a1 λv0 h1=>
J4 h1 85 (.agg [(uU 0),(uU 0),(.bool false),(iI 0),(.bool false),(iI 0)]) λv2 h3=>
qH v0 1 λv4=>
jK h3 v4 λv5=>
j6 .lss v5 (iI 0) λv6=>
vL (α :=AV×AV×AV×AV×AV×Unit→AH→R) (λs7 h8=>
w4 s7.2.1 (.bool true) s7.1 λv10=>
zU v10 (
zc [(uU 0),(uU 0),(.bool false),(iI 0),(.bool false),(iI 0)] [(5,1,(iI 2))] λv11=>
jw h8 s7.2.2.1 v11 6 λiP=>
jr iP s7.2.2.1 6 λuG=>
some (uG,iP)) (
qH s7.2.2.2.1 0 λnD=>
jK h8 nD λtJ=>
j6 .eql tJ (iI 3) λBO=>
zU BO (
zn s7.2.2.2.2.1 λpF=>
qH pF 6 λry=>
jK h8 ry λtK=>
qH s7.2.2.2.1 1 λv20=>
jK h8 v20 λtL=>
yt tK tL 3 λBP=>
jr h8 BP 3 λBQ=>
zc [(uU 0),(uU 0),(.bool false),(iI 0),(.bool false),(iI 0)] [(1,3,BQ)] λAj=>
jw h8 s7.2.2.1 Aj 6 λTW=>
jr TW s7.2.2.1 6 λAk=>
some (Ak,TW)) (
qH s7.2.2.2.1 7 λAl=>
jr h8 Al 3 λDd=>
xS c (.fn 65 [] []) [Dd] h8 λAm nE=>
sG .not Am λrz=>
zU rz (
zc [(uU 0),(uU 0),(.bool false),(iI 0),(.bool false),(iI 0)] [(5,1,(iI 1))] λrW=>
jw nE s7.2.2.1 rW 6 λRa=>
jr Ra s7.2.2.1 6 λDe=>
some (De,Ra)) (
qH s7.2.2.2.1 0 λtM=>
jK nE tM λAn=>
j6 .eql An (iI 5) λDf=>
zU Df (
zn s7.2.2.2.2.1 λTX=>
qH TX 6 λTY=>
jK nE TY λIp=>
qH s7.2.2.2.1 1 λIq=>
jK nE Iq λIr=>
qH s7.2.2.2.1 7 λIs=>
jr nE Is 3 λIt=>
yt Ip Ir 3 λIu=>
jw nE Iu It 3 λh46=>
zc [(uU 0),(uU 0),(.bool false),(iI 0),(.bool false),(iI 0)] [] λIv=>
jw h46 s7.2.2.1 Iv 6 λRb=>
jr Rb s7.2.2.1 6 λIw=>
some (Iw,Rb)) (
zn s7.2.2.2.2.1 λEJ=>
qH EJ 6 λEL=>
jK nE EL λDh=>
qH s7.2.2.2.1 1 λDi=>
jK nE Di λDj=>
yt Dh Dj 3 λAo=>
jr nE Ao 3 λAp=>
qH s7.2.2.2.1 4 λDk=>
jr nE Dk 3 λDl=>
UP [.nK .int 0,.nK .bool 1,.nK .int 2] true Ap Dl λIx=>
zU Ix (
zc [(uU 0),(uU 0),(.bool false),(iI 0),(.bool false),(iI 0)] [] λIy=>
jw nE s7.2.2.1 Iy 6 λh61=>
jr h61 s7.2.2.1 6 λDm=>
some (Dm,h61)) (
zn s7.2.2.2.2.1 λtN=>
qH tN 6 λDn=>
jK nE Dn λAq=>
qH s7.2.2.2.1 1 λAr=>
jK nE Ar λDp=>
qH s7.2.2.2.1 7 λDq=>
jr nE Dq 3 λDr=>
yt Aq Dp 3 λIz=>
jw nE Iz Dr 3 λRc=>
zc [(uU 0),(uU 0),(.bool false),(iI 0),(.bool false),(iI 0)] [(4,1,(.bool true))] λAs=>
jw Rc s7.2.2.1 As 6 λh73=>
jr h73 s7.2.2.1 6 λAt=>
some (At,h73))))))) λj9=>
JB v6 false (
qH v0 1 λIA=>
jK h3 IA λAu=>
zn a0 λtO=>
qH tO 6 λIB=>
jK h3 IB λTZ=>
kH TZ λIC=>
j6 .geq Au IC λID=>
j9 (ID,v6,v2,v0,a0,()) h3) (
j9 (.undef,v6,v2,v0,a0,()) h3)
def W44 : WF :=Pw S44
theorem W44_ok : pR Tryz.prog 44 W44 :=qvH (pl :=P44) λ_ _ _ _=>by kernel_rfl
def P45 : Pl :=.z
def S45 : dM Tryz.prog P45 45 :=λ_ _ _ _=>.mk _
def P46 : Pl :=(.n none .z (.n none (.r [[13,9]]) .z))
def S46 : cX Tryz.prog P46 46 :=λ_ _ _=>.mk _
def P47 : Pl :=(.n none .z (.n none .z (.n none .z (.n (some [6,5,4,1,0]) .z (.n none (.r [[4]]) .z)))))
def S47 : dM Tryz.prog P47 47 :=λ_ _ _ _=>.mk _
def P48 : Pl :=(.n none .z (.n none .z (.n none (.n none (.n (some [8,7,6,2,1,0]) .z .z) .z) (.n none .z (.n none (.n (some [6,2,1,0]) (.n none .z (.n none (.n none .z (.n none (.n none (.n (some [8,7,6,2,1,0]) .z .z) .z) (.n (some [6,2,1,0]) .z .z))) .z)) .z) .z)))))
def S48 : lu Tryz.prog P48 48 :=λ_ _ _ _ _=>.mk _
def P49 : Pl :=.z
def S49 : cX Tryz.prog P49 49 :=λ_ _ _=>.mk _
def P50 : Pl :=.z
def S50 : cX Tryz.prog P50 50 :=λ_ _ _=>.mk _
def P51 : Pl :=.z
def S51 : cX Tryz.prog P51 51 :=λ_ _ _=>.mk _
def P52 : Pl :=(.n none .z (.n none .z (.n none .z (.n none (.r [[6]]) .z))))
def S52 : lu Tryz.prog P52 52 :=λ_ _ _ _ _=>.mk _
def P53 : Pl :=(.n none .z (.n none .z (.n none (.r [[6]]) .z)))
def S53 : lu Tryz.prog P53 53 :=λ_ _ _ _ _=>.mk _
def P54 : Pl :=(.n none .z (.n (some [3]) (.n none .z (.n none (.r [[3]]) .z)) .z))
def S54 : dM Tryz.prog P54 54 :=λ_ _ _ _=>.mk _
def P55 : Pl :=(.n none .z (.n (some [3,2,0]) (.n none .z (.n none (.n none (.n (some [3,2,0]) (.n (some [3,2,0]) .z .z) .z) .z) .z)) (.n none .z (.n (some []) .z .z))))
def S55 : cX Tryz.prog P55 55 :=λ_ _ _=>.mk _
def P56 : Pl :=(.n none .z (.n none (.n none (.r [[15,10,3,0]]) .z) (.n none .z (.n none (.n none (.r [[42,35,3,0]]) .z) (.n none .z (.n (some []) .z .z))))))
def S56 (c : CV) (a0 a1 : AV) (h : AH) : R :=
J4 h 85 a1 λv0 h1=>
zn a0 λv2=>
qH v2 0 λv3=>
qH v3 2 λv4=>
jK h1 v4 λv5=>
j6 .neq v5 (iI 0) λv6=>
vL (α :=AV×AV×AV×AV×Unit→AH→R) (λs7 h8=>
w4 s7.2.1 (.bool true) s7.1 λv10=>
zU v10 (
some ((.cA []),h8)) (
zn s7.2.2.2.1 λv11=>
qH v11 8 λIE=>
jK h8 IE λuG=>
j6 .eql uG (iI 1) λnD=>
zU nD (
qH s7.2.2.1 0 λtJ=>
jK h8 tJ λBO=>
zn s7.2.2.2.1 λpF=>
qH pF 12 λry=>
jw h8 ry BO 1 λRe=>
zn s7.2.2.2.1 λv20=>
qH v20 8 λtL=>
jw Re tL (iI 2) 1 λRf=>
some ((.cA []),Rf)) (
zn s7.2.2.2.1 λBQ=>
qH BQ 8 λAj=>
jK h8 Aj λtP=>
j6 .eql tP (iI 2) λAk=>
vL (α :=AV×AV×AV×AV×Unit→AH→R) (λrX Rg=>
w4 rX.2.1 rX.1 (.bool false) λv30=>
zU v30 (
zn rX.2.2.2.1 λrz=>
qH rz 0 λrW=>
qH rW 2 λBR=>
jw Rg BR (iI 2) 1 λEM=>
some ((.cA []),EM)) (
zn rX.2.2.2.1 λtM=>
qH tM 8 λAn=>
jw Rg An (iI 0) 1 λBS=>
vL (α :=Unit→AH→List Nat→R) (λ_ Ds d40=>
zT d40 Ds λT3=>
some ((.cA []),T3)) λT4=>
qH rX.2.2.1 1 λIs=>
qH Is 1 λIt=>
jK BS It λIu=>
zU Iu (
zn rX.2.2.2.1 λIF=>
qH IF 0 λIv=>
qH rX.2.2.1 1 λT5=>
jr BS T5 3 λIw=>
xS c (.fn 80 [] []) [Iv,Iw] BS λ_ h51=>
T4 (()) h51 []) (
qH rX.2.2.1 1 λDh=>
qH Dh 0 λDi=>
jK BS Di λDj=>
zn rX.2.2.2.1 λAo=>
qH Ao 7 λAp=>
jK BS Ap λDk=>
j6 .gtr Dj Dk λDl=>
zU Dl (
zn rX.2.2.2.1 λIx=>
qH Ix 0 λIy=>
qH Iy 2 λIG=>
jw BS IG (iI 6) 1 λh62=>
T4 (()) h62 []) (
qH rX.2.2.1 1 λtN=>
jr BS tN 3 λDn=>
zn rX.2.2.2.1 λAq=>
qH Aq 9 λAr=>
jw BS Ar Dn 3 λIH=>
zn rX.2.2.2.1 λDq=>
qH Dq 8 λDr=>
jw IH Dr (iI 1) 1 λEN=>
T4 (()) EN [])))) λEP=>
JB Ak true (
qH s7.2.2.1 1 λDt=>
jr h8 Dt 3 λAs=>
zn s7.2.2.2.1 λDu=>
qH Du 9 λAt=>
jr h8 At 3 λIA=>
UP [.nK .int 0,.nK .bool 1,.nK .int 2] false As IA λAu=>
EP (Au,Ak,s7.2.2.1,s7.2.2.2.1,()) h8) (
EP (.undef,Ak,s7.2.2.1,s7.2.2.2.1,()) h8)))) λj9=>
JB v6 false (
zn a0 λtO=>
qH tO 0 λIB=>
jr h1 v0 6 λTZ=>
xS c (.fn 54 [] []) [IB,TZ] h1 λIC h81=>
j9 (IC,v6,v0,a0,()) h81) (
j9 (.undef,v6,v0,a0,()) h1)
def W56 : WF :=Pw S56
theorem W56_ok : pR Tryz.prog 56 W56 :=qvH (pl :=P56) λ_ _ _ _=>by kernel_rfl
def P57 : Pl :=(.n none .z (.n (some []) .z .z))
def S57 : cX Tryz.prog P57 57 :=λ_ _ _=>.mk _
def P58 : Pl :=(.n none .z (.n none (.n none (.r [[15,10,3,0]]) .z) (.n none (.n (some [0]) .z .z) .z)))
def S58 : dM Tryz.prog P58 58 :=λ_ _ _ _=>.mk _
def P59 : Pl :=(.n none .z (.n (some []) .z .z))
def S59 : cX Tryz.prog P59 59 :=λ_ _ _=>.mk _
def P60 : Pl :=(.n none .z (.n none (.n none (.r [[15,10,3,0]]) .z) (.n none .z (.n (some []) (.n (some [62,20,3,0]) .z .z) .z))))
def S60 : dM Tryz.prog P60 60 :=λ_ _ _ _=>.mk _
def P61 : Pl :=(.n none .z (.n none (.r [[15,9,0],[20,15,9],[21,9]]) .z))
def S61 : cX Tryz.prog P61 61 :=λ_ _ _=>.mk _
def P62 : Pl :=.z
def S62 : Bo Tryz.prog P62 62 :=λ_ _ _ _ _ _=>.mk _
def P63 : Pl :=(.n none .z (.n none (.n none .z (.n none (.n (some [0]) .z .z) .z)) (.n none (.r [[3,2,0]]) (.n none .z (.n none .z (.n none (.n none .z (.n none (.n (some [5,4,2,0]) .z .z) .z)) .z))))))
def S63 : cX Tryz.prog P63 63 :=λ_ _ _=>.mk _
def P64 : Pl :=(.n none .z (.n none .z (.n none (.n none .z (.n none (.n (some [8,7,6,1,0]) (.n none .z (.n none (.n (some [8,7,6,1,0]) .z .z) .z)) .z) .z)) .z)))
def S64 : dM Tryz.prog P64 64 :=λ_ _ _ _=>.mk _
def P65 : Pl :=(.n none .z (.n none .z (.n none (.n none .z (.n none (.n none (.r [[14,11]]) .z) .z)) .z)))
def S65 : cX Tryz.prog P65 65 :=λ_ _ _=>.mk _
def P66 : Pl :=(.n none .z (.n none (.r [[14,9,0],[22,16,0],[31,22,16],[32,16]]) .z))
def S66 : cX Tryz.prog P66 66 :=λ_ _ _=>.mk _
def P67 : Pl :=(.n none .z (.n none (.n none (.r [[12,9,0]]) .z) .z))
def S67 : cX Tryz.prog P67 67 :=λ_ _ _=>.mk _
def P68 : Pl :=(.n none .z (.n none (.n none (.r [[12,9,0]]) .z) .z))
def S68 : cX Tryz.prog P68 68 :=λ_ _ _=>.mk _
def P69 : Pl :=(.n none .z (.n none (.n none (.r [[12,9,0],[18,14,0]]) .z) .z))
def S69 : cX Tryz.prog P69 69 :=λ_ _ _=>.mk _
def P70 : Pl :=(.n none .z (.n none (.n (some [8,3,2,1,0]) (.n none .z (.n none (.n none (.n none .z (.n none (.n (some [9,8,3,2,1,0]) (.n none (.n none (.r [[33,21,9,8,3,2,1,0]]) .z) .z) .z) .z)) .z) .z)) .z) .z))
def S70 : Bo Tryz.prog P70 70 :=λ_ _ _ _ _ _=>.mk _
def P71 : Pl :=(.n none (.n none .z (.n none (.n none .z (.n none .z (.n none (.n none (.n (some [11,10,4,1,0]) (.n none .z (.n (some [11,10,4,1,0]) .z .z)) .z) .z) (.n none (.n none .z (.n none (.n (some [13,10,0]) .z .z) .z)) .z)))) .z)) (.n none (.n none .z (.n none (.n none .z (.n none .z (.n none (.n none (.n (some [15,14,4,2,0]) (.n none .z (.n (some [15,14,4,2,0]) .z .z)) .z) .z) (.n none (.n none .z (.n none (.n (some [17,14,0]) .z .z) .z)) .z)))) .z)) (.n none .z (.n none .z (.n none .z (.n (some [21,20,19,18,4,3,2,1,0]) .z (.n none .z (.n none (.n none (.n (some [22,21,20,19,18,4,3,2,1,0]) (.n none .z (.n (some [22,21,20,19,18,4,3,2,1,0]) .z .z)) .z) .z) (.n none .z (.n (some [24,20,18,4,3,1,0]) (.n none (.r [[184,181,24,20,18,4,3,2,1,0]]) .z) (.n (some [24,18,4,3,0]) (.n none (.r [[198,195,24,20,18,4,3,1,0]]) .z) (.n none (.r [[212,209,24,18,4,3,0]]) .z))))))))))))
def S71 : CD Tryz.prog P71 71 :=λ_ _ _ _ _ _ _=>.mk _
def P72 : Pl :=.z
def S72 : dM Tryz.prog P72 72 :=λ_ _ _ _=>.mk _
def P73 : Pl :=(.n none .z (.n none .z (.n none .z (.n none .z (.n (some [7]) .z .z)))))
def S73 : lu Tryz.prog P73 73 :=λ_ _ _ _ _=>.mk _
def P74 : Pl :=.z
def S74 : cX Tryz.prog P74 74 :=λ_ _ _=>.mk _
def P75 : Pl :=.z
def S75 : dM Tryz.prog P75 75 :=λ_ _ _ _=>.mk _
def P76 : Pl :=(.n none .z (.n none (.n (some [0]) (.n (some [0]) (.n none (.n none (.r [[14,9,0]]) .z) .z) .z) .z) .z))
def S76 : cX Tryz.prog P76 76 :=λ_ _ _=>.mk _
def P77 : Pl :=(.n none .z (.n none .z (.r [[]])))
def S77 : cX Tryz.prog P77 77 :=λ_ _ _=>.mk _
def P78 : Pl :=.z
def S78 : cX Tryz.prog P78 78 :=λ_ _ _=>.mk _
def P79 : Pl :=.z
def S79 : cX Tryz.prog P79 79 :=λ_ _ _=>.mk _
def P80 : Pl :=(.n none .z (.n none .z (.n none .z (.n none (.r [[]]) .z))))
def S80 : dM Tryz.prog P80 80 :=λ_ _ _ _=>.mk _
def P81 : Pl :=(.n none .z (.n none (.n none (.r [[12,9,3,0],[17,14,3,0]]) .z) (.n none (.n none .z (.n none (.n (some [5,3,0]) (.n none .z (.n none (.n none (.n none (.n none (.r [[50,39,5,3,0]]) .z) .z) .z) .z)) .z) .z)) .z)))
def S81 : dM Tryz.prog P81 81 :=λ_ _ _ _=>.mk _
def P82 : Pl :=.z
def S82 : lu Tryz.prog P82 82 :=λ_ _ _ _ _=>.mk _
def P83 : Pl :=(.n none .z (.n none (.n none .z (.n none (.n none .z (.n none .z (.n none .z (.n none .z (.n (some []) .z .z))))) .z)) (.n none (.n none .z (.n none (.n (some []) .z .z) .z)) .z)))
def S83 : dM Tryz.prog P83 83 :=λ_ _ _ _=>.mk _
def P84 : Pl :=.z
def S84 : Bo Tryz.prog P84 84 :=λ_ _ _ _ _ _=>.mk _
def P85 : Pl :=.z
def S85 : cX Tryz.prog P85 85 :=λ_ _ _=>.mk _
def P86 : Pl :=(.n none (.n none (.n (some [0]) .z .z) .z) .z)
def S86 : cX Tryz.prog P86 86 :=λ_ _ _=>.mk _
def P87 : Pl :=.z
def S87 : cX Tryz.prog P87 87 :=λ_ _ _=>.mk _
def P88 : Pl :=(.n none .z (.n none (.n none .z (.n none (.n (some [5,1,0]) (.n none .z (.n none (.n none (.n none (.r [[23,17,5,1,0]]) .z) .z) .z)) .z) .z)) .z))
def S88 : dM Tryz.prog P88 88 :=λ_ _ _ _=>.mk _
def P89 : Pl :=(.n none .z (.n none .z (.n none (.n none (.n (some [3,2,0]) .z .z) .z) (.n none .z (.n none (.n none .z (.n none (.n (some [5,4,2,0]) .z .z) .z)) .z)))))
def S89 : cX Tryz.prog P89 89 :=λ_ _ _=>.mk _
def P90 : Pl :=(.n none .z (.n none .z (.n none (.n none .z (.n none (.n (some [4,3,0]) (.n none .z (.n none (.n none (.n (some [4,3,0]) .z (.n (some [4,3,0]) .z .z)) .z) .z)) .z) .z)) .z)))
def S90 (c : CV) (a0 : AV) (h : AH) : R :=
Kh (σ :=Dc) NN (λi3 s0 h1 d2=>
kH s0.2.2.1 λv4=>
j6 .lss s0.1 v4 λv5=>
zU v5 (
vL (α :=Dc→AH→List Nat→R) (λs6 h7 d8=>
vL (α :=Dc→AH→List Nat→R) (λcg dO d12=>
j6 .add cg.1 (iI 1) λnD=>
i3 (nD,cg.2.1,cg.2.2.1,()) dO d12) λuH=>
yt s6.2.2.1 s6.1 2 λtJ=>
qH tJ 0 λBO=>
jK h7 BO λpF=>
j6 .eql pF (iI 1) λry=>
zU ry (
yt s6.2.2.1 s6.1 2 λtK=>
qH tK 1 λv20=>
jK h7 v20 λtL=>
xS c (.fn 107 [] []) [tL] h7 λBP rA=>
Uc .add s6.2.1 BP λAj=>
uH (s6.1,Aj,s6.2.2.1,()) rA d8) (
yt s6.2.2.1 s6.1 2 λtP=>
qH tP 0 λAk=>
jK h7 Ak λAl=>
j6 .eql Al (iI 3) λDd=>
zU Dd (
Uc .add s6.2.1 (.str [110,111,110,101]) λAm=>
uH (s6.1,Am,s6.2.2.1,()) h7 d8) (
yt s6.2.2.1 s6.1 2 λv30=>
qH v30 1 λrz=>
jK h7 rz λrW=>
j6 .eql rW (uU 1) λBR=>
zU BR (
Uc .add s6.2.1 (.str [121,101,115]) λDe=>
uH (s6.1,De,s6.2.2.1,()) h7 d8) (
Uc .add s6.2.1 (.str [110,111]) λtM=>
uH (s6.1,tM,s6.2.2.1,()) h7 d8)))) λj9=>
j6 .gtr s0.1 (iI 0) λAn=>
zU An (
Uc .add s0.2.1 (.str [32]) λDf=>
j9 (s0.1,Df,s0.2.2.1,()) h1 d2) (
j9 (s0.1,s0.2.1,s0.2.2.1,()) h1 d2)) (
zT d2 h1 λT6=>
some (s0.2.1,T6))) ((iI 0),(.str []),a0,()) h []
def W90 : WF :=Pv S90
theorem W90_ok : pR Tryz.prog 90 W90 :=qvN (pl :=P90) λ_ _ _=>by kernel_rfl
end
end Go.Proofs.YtaljafbgbfmcbaaGreat
