/- Printed by a program of mine: the bodies of the program's functions aa terms of the primitives of the abstract executor, each shown equal by the kernel. -/
import Derived.Test.YtaljafbgbfmcbaaGreatProg
import Derived.Test.YtaljafbgbfmcbaaGreatHistoryMadeAe1
import Derived.KernelRfl
namespace Go.Proofs.YtaljafbgbfmcbaaGreat
open Go Go.Ae
set_option maxRecDepth 100000
noncomputable section
attribute [local irreducible] zU JB w4 zn qH Gt Kg yt Ji J6 KV X8 jK jr jw j6 wh Uc sh UP sG QI G3 Nf Bk XR xC YQ wR Jc wn kH YX rJ J4 zc xd YG vt xH K7 KC XZ NO KY Vb Cz MU NI Mq xS JT Nz kA Z8 Q5 Xv Pn OV Po zT vL Kh AV.undef
set_option maxHeartbeats 40000000
def P91 : Pl :=(.n none .z (.n none .z (.n none (.n none (.n (some [11,10,4,2,0]) (.n none .z (.n (some [11,10,4,2,0]) .z .z)) .z) .z) .z)))
def S91 : CD Tryz.prog P91 91 :=λ_ _ _ _ _ _ _=>.mk _
def P92 : Pl :=.z
def S92 : cX Tryz.prog P92 92 :=λ_ _ _=>.mk _
def P93 : Pl :=(.n none .z (.n none (.n none (.r [[22,18,1]]) .z) (.n none .z (.n none .z (.n none (.n none .z (.n none (.n (some [9,8,7,6,1]) (.n none .z (.n none (.n none (.n none .z (.n (some [10,9,8,7,6,1]) .z (.n none .z (.n none .z (.n none .z (.n none (.n none (.r [[76,73,11,10,9,8,7,6,1],[81,78,11,10,9,8,7,6,1],[84,81,78,11,10,9,8,7,6,1],[85,78,11,10,9,8,7,6,1],[90,87,11,10,9,8,7,6,1],[93,90,87,11,10,9,8,7,6,1],[94,87,11,10,9,8,7,6,1],[99,96,11,10,9,8,7,6,1],[102,99,96,11,10,9,8,7,6,1],[103,96,11,10,9,8,7,6,1]]) .z) (.n none .z (.n (some [9,8,7,6,1]) (.n (some [107,106,11,10,9,8,7,6,1]) .z (.n none .z (.n (some [120,106,11,10,9,8,7,6,1]) .z .z))) .z)))))))) .z) .z)) .z) .z)) (.n none .z (.n none (.n none .z (.n none (.n (some [12,8,7,1]) (.n none .z (.n none (.n (some [12,8,7,1]) (.n none .z (.n (some [13,12,8,7,1]) .z (.n none (.n none (.r [[189,186,13,12,8,7,1]]) .z) (.n none (.n none (.r [[207,197,13,12,8,7,1],[216,209,12,8,7,1],[221,216,209,12,8,7,1],[222,209,12,8,7,1]]) .z) .z)))) .z) .z)) .z) .z)) .z)))))))
def S93 : cX Tryz.prog P93 93 :=λ_ _ _=>.mk _
def P94 : Pl :=(.n none .z (.n none (.n none (.r [[19,13,2,1,0]]) .z) (.n none .z (.n none .z (.n none (.n none .z (.n none (.n (some [10,8,2]) .z .z) .z)) .z)))))
def S94 : lu Tryz.prog P94 94 :=λ_ _ _ _ _=>.mk _
def P95 : Pl :=.z
def S95 : dM Tryz.prog P95 95 :=λ_ _ _ _=>.mk _
def P96 : Pl :=(.n none .z (.n none (.n none .z (.n none (.n (some [5,1,0]) .z .z) .z)) .z))
def S96 : dM Tryz.prog P96 96 :=λ_ _ _ _=>.mk _
def P97 : Pl :=(.n none .z (.n none .z (.n none .z (.n none (.n none .z (.n (some [6,5,0]) (.n none .z (.n none .z (.n none .z (.n none .z (.n (some [42,13,6,5,3,0]) .z (.n none (.r [[6,5,0]]) (.n (some [71,13,6,5,3,0]) .z .z))))))) .z)) (.n (some [6]) .z .z)))))
def S97 : dM Tryz.prog P97 97 :=λ_ _ _ _=>.mk _
def P98 : Pl :=.z
def S98 : CD Tryz.prog P98 98 :=λ_ _ _ _ _ _ _=>.mk _
def P99 : Pl :=.z
def S99 : lu Tryz.prog P99 99 :=λ_ _ _ _ _=>.mk _
def P100 : Pl :=.z
def S100 : lu Tryz.prog P100 100 :=λ_ _ _ _ _=>.mk _
def P101 : Pl :=(.n none .z (.n none .z (.n none .z (.n (some [15]) .z .z))))
def S101 : Pt Tryz.prog P101 101 :=λ_ _ _ _ _ _ _ _ _=>.mk _
def P102 : Pl :=(.n none .z (.n none (.r [[13,7]]) .z))
def S102 : dM Tryz.prog P102 102 :=λ_ _ _ _=>.mk _
def P103 : Pl :=(.n none .z (.n none (.n none .z (.n none (.n (some [5,1,0]) .z .z) .z)) .z))
def S103 : dM Tryz.prog P103 103 :=λ_ _ _ _=>.mk _
def P104 : Pl :=(.n none .z (.n none (.n none .z (.n none (.n (some [6,1,0]) .z .z) .z)) .z))
def S104 : dM Tryz.prog P104 104 :=λ_ _ _ _=>.mk _
def P105 : Pl :=(.n none .z (.n none .z (.n none (.n none .z (.n none (.n (some [4,3,0]) (.n none .z (.n none (.n none (.r [[4,3,0]]) .z) .z)) .z) .z)) .z)))
def S105 : cX Tryz.prog P105 105 :=λ_ _ _=>.mk _
def P106 : Pl :=(.n none .z (.n none .z (.n none .z (.n none .z (.n none .z (.n none (.n none .z (.n none (.n (some [6,5,4,3,0]) .z .z) .z)) (.n none (.r [[5,3,0]]) .z)))))))
def S106 : cX Tryz.prog P106 106 :=λ_ _ _=>.mk _
def P107 : Pl :=(.n none .z (.n none .z (.n none (.n none (.n (some [3,0]) .z .z) .z) .z)))
def S107 : cX Tryz.prog P107 107 :=λ_ _ _=>.mk _
def P108 : Pl :=(.n none .z (.n none (.n (some [10,3,2,1,0]) .z .z) .z))
def S108 : CD Tryz.prog P108 108 :=λ_ _ _ _ _ _ _=>.mk _
def P109 : Pl :=(.n none .z (.n none .z (.n none (.n none (.r [[17,13,3,1],[20,17,13,3,1],[21,13,3,1],[29,23,3,1],[37,31,3,1],[45,39,1]]) .z) (.n none (.r [[53,50]]) .z))))
def S109 : cX Tryz.prog P109 109 :=λ_ _ _=>.mk _
def P110 : Pl :=(.n none .z (.n none (.n none .z (.n none (.n (some [6,1,0]) .z .z) .z)) .z))
def S110 : dM Tryz.prog P110 110 :=λ_ _ _ _=>.mk _
def P111 : Pl :=(.n none .z (.n none .z (.n none (.n none .z (.n none (.n (some [6,5,1,0]) .z .z) .z)) .z)))
def S111 : dM Tryz.prog P111 111 :=λ_ _ _ _=>.mk _
def P112 : Pl :=(.n none .z (.n none (.n none .z (.n (some []) .z .z)) .z))
def S112 : lu Tryz.prog P112 112 :=λ_ _ _ _ _=>.mk _
def P113 : Pl :=(.n none .z (.n none (.n none .z (.n none (.n none .z (.n none (.n none .z (.n none .z (.n none .z (.n (some [7]) .z .z)))) (.n none .z (.n none (.n none .z (.n none (.n none (.r [[67,60,8,3,0]]) .z) .z)) (.n none .z (.n none (.n none .z (.n none .z (.n (some [10]) .z .z))) .z)))))) .z)) .z))
def S113 : dM Tryz.prog P113 113 :=λ_ _ _ _=>.mk _
def P114 : Pl :=(.n none .z (.n none .z (.n none (.n none .z (.n (some []) (.n (some [17,14,5,3,0]) .z (.n none .z (.n (some [64,14,5,0]) .z (.n none .z (.n none .z (.n none .z (.n none .z (.n none (.n none .z (.n none .z (.n none .z (.n none (.r [[0]]) .z)))) .z)))))))) .z)) .z)))
def S114 : dM Tryz.prog P114 114 :=λ_ _ _ _=>.mk _
def P115 : Pl :=.z
def S115 : dM Tryz.prog P115 115 :=λ_ _ _ _=>.mk _
def P116 : Pl :=(.n none .z (.n none .z (.n none (.n none .z (.n none (.n (some [8,7,2,1,0]) (.n none .z (.n none (.n (some [8,7,2,1,0]) .z .z) .z)) .z) .z)) (.n none .z (.n none (.n none .z (.n none (.n (some [11,10,7]) (.n none .z (.n none (.n (some [11,10,7]) .z .z) .z)) .z) .z)) .z)))))
def S116 : lu Tryz.prog P116 116 :=λ_ _ _ _ _=>.mk _
def P117 : Pl :=.z
def S117 : lu Tryz.prog P117 117 :=λ_ _ _ _ _=>.mk _
def P118 : Pl :=(.n none .z (.n none .z (.n none (.n none .z (.n none (.n none .z (.n none .z (.n none .z (.n none .z (.n (some [15,5,4,2,0]) .z (.n none .z (.n none .z (.n none .z (.n none .z (.n none .z (.n none .z (.n none .z (.n none .z (.n none .z (.n none .z (.n none .z (.n none .z (.n none .z (.n (some [55,5,4,2,0]) .z .z))))))))))))))))))) .z)) .z)))
def S118 (_ : CV) (a0 : AV) (h : AH) : R :=
J4 h 206 (.agg [(.str []),(iI 0),(iI 0),(iI 0),(.bool false)]) λv0 h1=>
j6 .eql a0 (iI 1) λv2=>
zU v2 (
zc [(.str []),(iI 0),(iI 0),(iI 0),(.bool false)] [(0,1,(.str [115,101,116])),(1,1,(iI 7)),(2,1,(.int .i64 (.negSucc 0))),(3,1,(.int .i64 (.negSucc 0))),(4,1,(.bool true))] λv3=>
jw h1 v0 v3 5 λh4=>
jr h4 v0 5 λv5=>
some ((.cA [v5,(.bool true)]),h4)) (
j6 .eql a0 (iI 2) λv6=>
zU v6 (
zc [(.str []),(iI 0),(iI 0),(iI 0),(.bool false)] [(0,1,(.str [109,111,118,101])),(1,1,(iI 7)),(2,1,(iI 7)),(3,1,(.int .i64 (.negSucc 0)))] λv7=>
jw h1 v0 v7 5 λh8=>
jr h8 v0 5 λv9=>
some ((.cA [v9,(.bool true)]),h8)) (
vL (α :=AV×AV×AV×AV×AV×Unit→AH→List Nat→R) (λcg dO d12=>
zU cg.1 (
zc [(.str []),(.str []),(.str []),(.str []),(.str [])] [(0,1,(.str [97,100,100])),(1,1,(.str [115,117,98])),(2,1,(.str [109,117,108])),(3,1,(.str [108,101,115,115])),(4,1,(.str [101,113,117,97,108]))] λnD=>
j6 .sub cg.2.2.2.2.1 (iI 3) λtJ=>
J6 nD tJ 5 1 λBO=>
zc [(.str []),(iI 0),(iI 0),(iI 0),(.bool false)] [(0,1,BO),(1,1,cg.2.2.1),(2,1,cg.2.2.1),(3,1,cg.2.2.1)] λpF=>
jw dO cg.2.2.2.1 pF 5 λh18=>
zT d12 h18 λRe=>
jr Re cg.2.2.2.1 5 λv20=>
some ((.cA [v20,(.bool true)]),Re)) (
j6 .eql cg.2.1 (iI 8) λtL=>
zU tL (
zc [(.str []),(iI 0),(iI 0),(iI 0),(.bool false)] [(0,1,(.str [108,111,97,100])),(1,1,cg.2.2.1),(2,1,cg.2.2.1),(3,1,(iI 15))] λBP=>
jw dO cg.2.2.2.1 BP 5 λrA=>
zT d12 rA λsy=>
jr sy cg.2.2.2.1 5 λtP=>
some ((.cA [tP,(.bool true)]),sy)) (
j6 .eql cg.2.1 (iI 9) λAk=>
zU Ak (
zc [(.str []),(iI 0),(iI 0),(iI 0),(.bool false)] [(0,1,(.str [115,116,111,114,101])),(1,1,cg.2.2.1),(2,1,cg.2.2.1),(3,1,(iI 15))] λAl=>
jw dO cg.2.2.2.1 Al 5 λRg=>
zT d12 Rg λh29=>
jr h29 cg.2.2.2.1 5 λv30=>
some ((.cA [v30,(.bool true)]),h29)) (
j6 .eql cg.2.1 (iI 10) λrz=>
zU rz (
zc [(.str []),(iI 0),(iI 0),(iI 0),(.bool false)] [(0,1,(.str [97,108,108,111,99])),(1,1,cg.2.2.1),(2,1,cg.2.2.1),(3,1,(.int .i64 (.negSucc 0)))] λrW=>
jw dO cg.2.2.2.1 rW 5 λRa=>
zT d12 Ra λEM=>
jr EM cg.2.2.2.1 5 λtM=>
some ((.cA [tM,(.bool true)]),EM)) (
j6 .eql cg.2.1 (iI 11) λAn=>
zU An (
zc [(.str []),(iI 0),(iI 0),(iI 0),(.bool false)] [(0,1,(.str [102,114,101,101])),(1,1,cg.2.2.1),(2,1,(.int .i64 (.negSucc 0))),(3,1,(.int .i64 (.negSucc 0)))] λDf=>
jw dO cg.2.2.2.1 Df 5 λT6=>
zT d12 T6 λDs=>
jr Ds cg.2.2.2.1 5 λIp=>
some ((.cA [Ip,(.bool true)]),Ds)) (
j6 .eql cg.2.1 (iI 12) λIq=>
zU Iq (
zc [(.str []),(iI 0),(iI 0),(iI 0),(.bool false)] [(0,1,(.str [106,117,109,112])),(1,1,(.int .i64 (.negSucc 0))),(2,1,(.int .i64 (.negSucc 0))),(3,1,(iI 40))] λIr=>
jw dO cg.2.2.2.1 Ir 5 λh43=>
zT d12 h43 λh44=>
jr h44 cg.2.2.2.1 5 λIu=>
some ((.cA [Iu,(.bool true)]),h44)) (
j6 .eql cg.2.1 (iI 13) λIF=>
zU IF (
zc [(.str []),(iI 0),(iI 0),(iI 0),(.bool false)] [(0,1,(.str [122,101,114,111])),(1,1,cg.2.2.1),(2,1,(.int .i64 (.negSucc 0))),(3,1,(iI 40))] λIv=>
jw dO cg.2.2.2.1 Iv 5 λRb=>
zT d12 Rb λh49=>
jr h49 cg.2.2.2.1 5 λEJ=>
some ((.cA [EJ,(.bool true)]),h49)) (
vL (α :=AV×AV×AV×AV×AV×Unit→AH→List Nat→R) (λog II d53=>
zU og.1 (
zc [(.str []),(.str []),(.str []),(.str []),(.str []),(.str []),(.str [])] [(0,1,(.str [111,112,101,110])),(1,1,(.str [99,108,111,115,101])),(2,1,(.str [117,110,100,111])),(3,1,(.str [101,105,116,104,101,114])),(4,1,(.str [111,114])),(5,1,(.str [100,111,110,101])),(6,1,(.str [114,101,116,114,121]))] λAo=>
j6 .sub og.2.2.2.2.1 (iI 14) λAp=>
J6 Ao Ap 7 1 λDk=>
zc [(.str []),(iI 0),(iI 0),(iI 0),(.bool false)] [(0,1,Dk),(1,1,(.int .i64 (.negSucc 0))),(2,1,(.int .i64 (.negSucc 0))),(3,1,(.int .i64 (.negSucc 0)))] λDl=>
jw II og.2.2.2.1 Dl 5 λh59=>
zT d53 h59 λh60=>
jr h60 og.2.2.2.1 5 λIG=>
some ((.cA [IG,(.bool true)]),h60)) (
j6 .eql og.2.1 (iI 21) λDm=>
zU Dm (
zc [(.str []),(iI 0),(iI 0),(iI 0),(.bool false)] [(0,1,(.str [101,109,105,116])),(1,1,og.2.2.1),(2,1,(.int .i64 (.negSucc 0))),(3,1,(.int .i64 (.negSucc 0)))] λtN=>
jw II og.2.2.2.1 tN 5 λT7=>
zT d53 T7 λh65=>
jr h65 og.2.2.2.1 5 λAr=>
some ((.cA [Ar,(.bool true)]),h65)) (
j6 .eql og.2.1 (iI 22) λDp=>
zU Dp (
zc [(.str []),(iI 0),(iI 0),(iI 0),(.bool false)] [(0,1,(.str [102,97,105,108])),(1,1,(.int .i64 (.negSucc 0))),(2,1,(.int .i64 (.negSucc 0))),(3,1,(.int .i64 (.negSucc 0)))] λDq=>
jw II og.2.2.2.1 Dq 5 λIJ=>
zT d53 IJ λEN=>
jr EN og.2.2.2.1 5 λDt=>
some ((.cA [Dt,(.bool true)]),EN)) (
j6 .eql og.2.1 (iI 23) λAs=>
zU As (
j6 .sub og.2.2.1 (iI 1) λDu=>
zc [(.str []),(iI 0),(iI 0),(iI 0),(.bool false)] [(0,1,(.str [99,97,108,108])),(1,1,(iI 12)),(2,1,(iI 7)),(3,1,Du)] λAt=>
jw II og.2.2.2.1 At 5 λT8=>
zT d53 T8 λh76=>
jr h76 og.2.2.2.1 5 λtO=>
some ((.cA [tO,(.bool true)]),h76)) (
zc [(.str []),(iI 0),(iI 0),(iI 0),(.bool false)] [] λIB=>
jw II og.2.2.2.1 IB 5 λh79=>
zT d53 h79 λh80=>
jr h80 og.2.2.2.1 5 λID=>
some ((.cA [ID,(.bool false)]),h80)))))) λDv=>
j6 .eql cg.2.1 (iI 14) λRh=>
zU Rh (
Dv (Rh,cg.2.1,cg.2.2.1,cg.2.2.2.1,cg.2.2.2.2.1,()) dO d12) (
j6 .eql cg.2.1 (iI 15) λRi=>
zU Ri (
Dv (Ri,cg.2.1,cg.2.2.1,cg.2.2.2.1,cg.2.2.2.2.1,()) dO d12) (
j6 .eql cg.2.1 (iI 16) λIK=>
zU IK (
Dv (IK,cg.2.1,cg.2.2.1,cg.2.2.2.1,cg.2.2.2.2.1,()) dO d12) (
j6 .eql cg.2.1 (iI 17) λIL=>
zU IL (
Dv (IL,cg.2.1,cg.2.2.1,cg.2.2.2.1,cg.2.2.2.2.1,()) dO d12) (
j6 .eql cg.2.1 (iI 18) λIN=>
zU IN (
Dv (IN,cg.2.1,cg.2.2.1,cg.2.2.2.1,cg.2.2.2.2.1,()) dO d12) (
j6 .eql cg.2.1 (iI 19) λIP=>
zU IP (
Dv (IP,cg.2.1,cg.2.2.1,cg.2.2.2.1,cg.2.2.2.2.1,()) dO d12) (
j6 .eql cg.2.1 (iI 20) λT9=>
Dv (T9,cg.2.1,cg.2.2.1,cg.2.2.2.1,cg.2.2.2.2.1,()) dO d12)))))))))))))) λuH=>
j6 .eql a0 (iI 3) λRj=>
zU Rj (
uH (Rj,a0,(iI 7),v0,a0,()) h1 []) (
j6 .eql a0 (iI 4) λv90=>
zU v90 (
uH (v90,a0,(iI 7),v0,a0,()) h1 []) (
j6 .eql a0 (iI 5) λRk=>
zU Rk (
uH (Rk,a0,(iI 7),v0,a0,()) h1 []) (
j6 .eql a0 (iI 6) λRl=>
zU Rl (
uH (Rl,a0,(iI 7),v0,a0,()) h1 []) (
j6 .eql a0 (iI 7) λv93=>
uH (v93,a0,(iI 7),v0,a0,()) h1 []))))))
def W118 : WF :=Pv S118
theorem W118_ok : pR Tryz.prog 118 W118 :=qvN (pl :=P118) λ_ _ _=>by kernel_rfl
def P119 : Pl :=(.n none .z (.n none (.r [[9,7,1,0],[14,11,1,0],[17,14,11],[18,11]]) .z))
def S119 : dM Tryz.prog P119 119 :=λ_ _ _ _=>.mk _
def P120 : Pl :=(.n none .z (.n none (.n none (.r [[12,10,2,1,0]]) .z) (.n none .z (.n none (.n none (.r [[34,31,7,2,1,0]]) .z) (.n none (.r [[]]) .z)))))
def S120 : lu Tryz.prog P120 120 :=λ_ _ _ _ _=>.mk _
def P121 : Pl :=(.n none .z (.n none (.n none (.r [[12,7,1,0],[19,14,1,0]]) .z) .z))
def S121 : dM Tryz.prog P121 121 :=λ_ _ _ _=>.mk _
def P122 : Pl :=(.n none .z (.n none .z (.n none .z (.n none .z (.n none .z (.n none .z (.n none .z (.n none .z (.n none .z (.n none .z (.n none .z (.n none (.n none (.r [[85,15,10,6,0]]) .z) .z))))))))))))
def S122 : dM Tryz.prog P122 122 :=λ_ _ _ _=>.mk _
def P123 : Pl :=.z
def S123 : dM Tryz.prog P123 123 :=λ_ _ _ _=>.mk _
def P124 : Pl :=.z
def S124 : cX Tryz.prog P124 124 :=λ_ _ _=>.mk _
def P125 : Pl :=.z
def S125 : cX Tryz.prog P125 125 :=λ_ _ _=>.mk _
def P126 : Pl :=(.n none (.n none (.n (some [0]) (.n none .z (.n none (.n none .z (.n none .z (.n none .z (.n none .z (.n none .z (.n none (.r [[3,0]]) .z)))))) .z)) .z) .z) .z)
def S126 : cX Tryz.prog P126 126 :=λ_ _ _=>.mk _
def P127 : Pl :=(.n none .z (.n none .z (.n none (.n none .z (.n none (.n (some [4,3,0]) .z .z) .z)) .z)))
def S127 : cX Tryz.prog P127 127 :=λ_ _ _=>.mk _
def P128 : Pl :=(.n none .z (.n none (.n none (.r [[8,6,0]]) .z) (.n none .z (.n none (.n none (.n (some [3,0]) .z .z) .z) .z))))
def S128 : cX Tryz.prog P128 128 :=λ_ _ _=>.mk _
def P129 : Pl :=.z
def S129 : cX Tryz.prog P129 129 :=λ_ _ _=>.mk _
def P130 : Pl :=(.n none .z (.n none (.n none (.r [[7,5,0]]) .z) .z))
def S130 : cX Tryz.prog P130 130 :=λ_ _ _=>.mk _
def P131 : Pl :=(.n none .z (.r [[]]))
def S131 : dM Tryz.prog P131 131 :=λ_ _ _ _=>.mk _
end
end Go.Proofs.YtaljafbgbfmcbaaGreat
