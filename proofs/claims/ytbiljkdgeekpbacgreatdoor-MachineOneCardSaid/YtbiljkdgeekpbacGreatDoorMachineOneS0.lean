/- Printed by a program of mine: the bodies of the program's functions aa terms of the primitives of the abstract executor, each shown equal by the kernel. -/
import Derived.Test.YtbiljkdgeekpbacGreatDoorProg
import Derived.Test.YtbiljkdgeekpbacGreatDoorMachineOneAe1
import Derived.KernelRfl
namespace Go.Proofs.YtbiljkdgeekpbacGreatDoor
open Go Go.Ae
set_option maxRecDepth 100000
noncomputable section
attribute [local irreducible] zt ke ky xm qt Yt Xr gF QC XN XP gj jN zO jd zG wM MN pEq G4 pUn vi XC Vv ZH gX xY gk x9 ki z8 kF Qu pMM gi yg xX Qv yc xx Yc Xt Qj Uj Xd Ku qQS K9 Uq K6 zz yR Jr Jz Jh xc vC pIs Xj MJ z7 yB YU AV.undef
set_option maxHeartbeats 40000000
def P3 : Pl :=(.n none .z (.n none .z (.n none .z (.n none .z (.n none .z (.n none .z (.n none (.n none .z (.n none (.n (some [9,8,7,6,5]) (.n none .z (.n none (.n none (.n none (.n none .z (.n none (.n (some [10,9,8,7,6,5]) (.n none (.n none (.r [[40,36,10,9,8,7,6,5]]) .z) .z) .z) .z)) (.n none .z (.n none (.n none (.r [[64,56,11,9,8,7,6,5]]) .z) (.n none .z (.n none (.n (some [12,11,9,8,7,6,5]) (.n none .z (.n none (.n none (.n none .z (.n none (.n none (.r [[101,93,13,12,11,9,7,6,5],[111,103,13,12,11,9,7,6,5]]) .z) .z)) .z) .z)) .z) .z))))) .z) .z)) .z) .z)) (.n none (.r [[132,130]]) .z))))))))
def S3 : tE2 Tryz.prog P3 3 :=λ_ _ _ _=>.mk _
def P4 : Pl :=(.n none .z (.n none .z (.n none .z (.n none .z (.n none .z (.n none (.n none .z (.n none (.n (some [4,3]) .z .z) .z)) (.n none .z (.n none (.r [[37,34,6,5,3],[43,39,6,5,3],[49,45,6,3],[54,51,6,3],[59,56,6,3],[66,61,3],[71,68,3],[76,73,3],[81,78,3],[85,83,3],[90,87,3],[96,92,3],[102,98,3],[108,104,3],[114,110,3],[121,116]]) .z))))))))
def S4 : tE0 Tryz.prog P4 4 :=λ_ _=>.mk _
def P5 : Pl :=(.n none .z (.n none (.r [[3,2,1]]) (.n none (.r [[3,2]]) .z)))
def S5 : tE1 Tryz.prog P5 5 :=λ_ _ _=>.mk _
def P6 : Pl :=(.n none .z (.n none .z (.n none (.n none .z (.n none (.n (some [8,7,2,1,0]) (.n none (.n none (.r [[17,15,8,7,2,1,0]]) .z) (.n none (.n none (.n none .z (.n none (.n none .z (.n none (.n (some [10,9,8,7,2,1,0]) (.n none (.n none (.r [[30,28,10,9,8,7,2,1,0]]) .z) .z) .z) .z)) .z)) .z) .z)) .z) .z)) .z)))
def S6 : tE3 Tryz.prog P6 6 :=λ_ _ _ _ _=>.mk _
def P7 : Pl :=(.n none .z (.n none .z (.n none .z (.n none .z (.n none (.r [[5,2,1]]) (.n none (.n none .z (.n none (.n (some [32,31,30,5,2,1]) (.n none .z (.n none .z (.n none (.n (some [32,31,30,5,2,1]) .z .z) .z))) .z) .z)) (.n none (.n none .z (.n none (.n (some [51,50,5,2,1]) (.n none .z (.n none .z (.n none (.n none (.n none .z (.n none .z (.n (some [51,50,9,8,5,2,1]) .z (.r [[51,50,5,2,1]])))) .z) .z))) .z) .z)) .z)))))))
def S7 : tE2 Tryz.prog P7 7 :=λ_ _ _ _=>.mk _
def P8 : Pl :=.z
def S8 : tE1 Tryz.prog P8 8 :=λ_ _ _=>.mk _
def P9 : Pl :=.z
def S9 : tE2 Tryz.prog P9 9 :=λ_ _ _ _=>.mk _
def P10 : Pl :=(.n none .z (.n none (.n none (.r [[19,12,2,1,0]]) .z) (.n none .z (.n none .z (.n none .z (.n none .z (.n none (.r [[1,0]]) (.n none .z (.n none (.n none .z (.n none (.n (some [80,79,78,1,0]) (.n none .z (.n none .z (.n none (.n (some [80,79,78,1,0]) .z .z) .z))) .z) .z)) .z)))))))))
def S10 : tE3 Tryz.prog P10 10 :=λ_ _ _ _ _=>.mk _
def P11 : Pl :=.z
def S11 : tE2 Tryz.prog P11 11 :=λ_ _ _ _=>.mk _
def P12 : Pl :=(.n none .z (.n none .z (.n none .z (.n none .z (.n (some [11,8,0]) .z .z)))))
def S12 : tE4 Tryz.prog P12 12 :=λ_ _ _ _ _ _=>.mk _
def P13 : Pl :=(.n none .z (.n none .z (.n none (.n none .z (.n none (.n (some [16,15,14,7,6,0]) .z .z) .z)) .z)))
def S13 : tE3 Tryz.prog P13 13 :=λ_ _ _ _ _=>.mk _
def P14 : Pl :=(.n none .z (.n none .z (.n none (.n none .z (.n none (.n (some [5,1,0]) .z .z) .z)) .z)))
def S14 : tE2 Tryz.prog P14 14 :=λ_ _ _ _=>.mk _
def P15 : Pl :=(.n none .z (.n none (.n none .z (.n none (.n (some [11,10,9]) (.n none .z (.n none .z (.n none (.n none (.n none .z (.n none .z (.n none (.r [[21,19,11,10,9]]) .z))) .z) .z))) .z) .z)) .z))
def S15 : tE1 Tryz.prog P15 15 :=λ_ _ _=>.mk _
def P16 : Pl :=.z
def S16 : tE1 Tryz.prog P16 16 :=λ_ _ _=>.mk _
def P17 : Pl :=.z
def S17 : tE1 Tryz.prog P17 17 :=λ_ _ _=>.mk _
def P18 : Pl :=.z
def S18 : tE1 Tryz.prog P18 18 :=λ_ _ _=>.mk _
def P19 : Pl :=(.n none .z (.n none (.n none .z (.n none (.n (some [10,9,8]) .z .z) .z)) .z))
def S19 : tE1 Tryz.prog P19 19 :=λ_ _ _=>.mk _
def P20 : Pl :=(.n none .z (.n none .z (.n none (.n none .z (.n none (.n (some [11,10,9,3]) .z .z) .z)) .z)))
def S20 : tE1 Tryz.prog P20 20 :=λ_ _ _=>.mk _
def P21 : Pl :=.z
def S21 : tE1 Tryz.prog P21 21 :=λ_ _ _=>.mk _
def P22 : Pl :=.z
def S22 : tE1 Tryz.prog P22 22 :=λ_ _ _=>.mk _
def P23 : Pl :=.z
def S23 : tE2 Tryz.prog P23 23 :=λ_ _ _ _=>.mk _
def P24 : Pl :=.z
def S24 : tE1 Tryz.prog P24 24 :=λ_ _ _=>.mk _
def P25 : Pl :=(.n none .z (.n none .z (.n (some [1,0]) .z .z)))
def S25 : tE3 Tryz.prog P25 25 :=λ_ _ _ _ _=>.mk _
def P26 : Pl :=(.n none .z (.n none .z (.n none .z (.n none (.n none .z (.n (some [8,7,6]) (.n (some [9,8,7,6,2,1,0]) (.n none .z (.n none (.n none (.n none .z (.n none .z (.n none .z (.n none .z (.n (some [9,8,7,6,2,1,0]) (.n none (.r [[46,44,12,11,10,9,8,7,6,2,1,0]]) (.n none .z (.n none (.r [[60,58,12,11,10,9,8,7,6,2,1,0],[64,62,12,11,10,9,8,7,6,2,1,0]]) (.n none .z (.n none (.r [[78,76,12,11,10,9,8,7,6,2,1,0],[82,80,12,11,10,9,8,7,6,2,1,0]]) (.n none .z (.n none (.r [[95,93,12,11,10,9,8,7,6,2,1,0],[103,97,12,11,10,9,8,7,6,2,1,0]]) (.n none .z (.n none (.r [[114,112,12,11,10,9,8,7,6,2,1,0],[118,116,12,11,10,9,8,7,6,2,1,0],[122,120,12,10,9,8,7,6,2,1,0]]) (.n none .z (.n none (.r [[140,138,12,10,9,8,7,6,2,1,0]]) (.n none .z (.n none (.r [[158,156,12,10,9,8,7,6,2,1,0]]) (.n none .z (.n none (.r [[176,174,12,10,9,8,7,6,2,1,0]]) (.n none (.r [[9,8,7,6,2,1,0]]) (.n none (.r [[195,193,10,9,8,7,6,2,1,0]]) (.n none (.r [[9,8,7,6,2,1,0]]) .z)))))))))))))))))) .z))))) .z) .z)) .z) .z)) (.n none (.n none (.n (some [8,7,6]) .z .z) .z) (.n (some [7,6]) .z .z))))))
def S26 : tE3 Tryz.prog P26 26 :=λ_ _ _ _ _=>.mk _
def P27 : Pl :=(.n none .z (.n none (.r [[2]]) .z))
def S27 : tE1 Tryz.prog P27 27 :=λ_ _ _=>.mk _
def P28 : Pl :=(.n none .z (.n none .z (.n none (.r [[2]]) .z)))
def S28 : tE1 Tryz.prog P28 28 :=λ_ _ _=>.mk _
def P29 : Pl :=.z
def S29 : tE1 Tryz.prog P29 29 :=λ_ _ _=>.mk _
def P30 : Pl :=(.n none .z (.n none .z (.n (some [5,4]) .z .z)))
def S30 : tE2 Tryz.prog P30 30 :=λ_ _ _ _=>.mk _
def P31 : Pl :=(.n none .z (.n none .z (.n none (.r [[7,2]]) (.n none (.n none .z (.n none (.n (some [29,28,27,7]) (.n none .z (.n none .z (.n none (.n none (.n none .z (.r [[29,28,27,7]])) .z) .z))) .z) .z)) .z))))
def S31 : tE3 Tryz.prog P31 31 :=λ_ _ _ _ _=>.mk _
def P32 : Pl :=.z
def S32 : tE1 Tryz.prog P32 32 :=λ_ _ _=>.mk _
def P33 : Pl :=(.n none .z (.n none (.n none (.r [[14,7,1,0]]) .z) .z))
def S33 : tE2 Tryz.prog P33 33 :=λ_ _ _ _=>.mk _
def P34 : Pl :=.z
def S34 : tE1 Tryz.prog P34 34 :=λ_ _ _=>.mk _
def P35 : Pl :=.z
def S35 : tE1 Tryz.prog P35 35 :=λ_ _ _=>.mk _
def P36 : Pl :=.z
def S36 : tE1 Tryz.prog P36 36 :=λ_ _ _=>.mk _
def P37 : Pl :=(.n none .z (.n none .z (.n (some []) (.n none .z (.n none (.n none .z (.n none .z (.n (some [3,2,0]) (.n none .z (.n none (.r [[43,41,3,2,0]]) .z)) .z))) (.n none .z (.n none .z (.n none .z (.n none (.n (some [5,0]) .z .z) .z)))))) .z)))
def S37 : tE4 Tryz.prog P37 37 :=λ_ _ _ _ _ _=>.mk _
def P38 : Pl :=(.n none .z (.n none .z (.n none (.n (some [19,18,17,2,1,0]) (.n none .z (.n none .z (.n none (.n none (.n none .z (.n none (.n none (.r [[31,27,19,18,17,2,1,0]]) .z) (.n (some []) (.n none .z (.n none .z (.n none (.r [[50,45,0]]) .z))) .z))) .z) .z))) .z) .z)))
def S38 : tE3 Tryz.prog P38 38 :=λ_ _ _ _ _=>.mk _
def P39 : Pl :=.z
def S39 : tE1 Tryz.prog P39 39 :=λ_ _ _=>.mk _
def P40 : Pl :=(.n none .z (.n none .z (.n none (.n none .z (.n none (.n (some [6,5,0]) (.n none .z (.n none (.n none (.n none .z (.n (some [7,6,5,0]) .z .z)) .z) .z)) .z) .z)) .z)))
def S40 : tE2 Tryz.prog P40 40 :=λ_ _ _ _=>.mk _
def P41 : Pl :=(.n none .z (.n none .z (.n none .z (.n none (.r [[6]]) .z))))
def S41 : tE3 Tryz.prog P41 41 :=λ_ _ _ _ _=>.mk _
def P42 : Pl :=(.n none .z (.n none (.n none (.n (some [0]) (.n none .z (.n (some [0]) (.n none .z (.n none .z (.n none .z (.n none .z (.n (some [0]) .z .z))))) .z)) .z) .z) .z))
def S42 : tE1 Tryz.prog P42 42 :=λ_ _ _=>.mk _
def P43 : Pl :=.z
def S43 : tE1 Tryz.prog P43 43 :=λ_ _ _=>.mk _
def P44 : Pl :=.z
def S44 : tE1 Tryz.prog P44 44 :=λ_ _ _=>.mk _
def P45 : Pl :=(.n none .z (.n none .z (.n none (.n none .z (.n none (.n (some [17,16,15,3]) .z .z) .z)) .z)))
def S45 (c : CV) (a0 : AV) (h : AH) : R :=
xm a0 λv0=>
qt v0 0 λv1=>
jN h v1 λv2=>
kF v2 λv3=>
Qv h 9 [(.str [])] v3 v3 λv4 h5=>
xm a0 λv6=>
qt v6 0 λv7=>
jN h5 v7 λv8=>
kF v8 λv9=>
YU (σ :=AV×AV×AV×AV×Unit) NN (λi13 s10 h11 d12=>
zG .lss s10.1 s10.2.1 λv14=>
zt v14 (
gF s10.2.2.1 s10.1 1 λv15=>
jN h11 v15 λv16=>
zz c (.fn 89 [] []) [v16] h11 λv17 h18=>
gF s10.2.2.2.1 s10.1 1 λv19=>
jd h18 v19 v17 1 λh20=>
zG .add s10.1 (iI 1) λv21=>
i13 (v21,s10.2.1,s10.2.2.1,s10.2.2.2.1,()) h20 d12) (
zz c (.fn 90 [] []) [s10.2.2.2.1,(.str [32])] h11 λv22 h23=>
z7 d12 h23 λh24=>
some (v22,h24))) ((iI 0),v9,v8,v4,()) h5 []
def W45 : WF :=w_1 S45
theorem W45_ok : WOk Tryz.prog 45 W45 :=Kf (pl :=P45) λ_ _ _=>by kernel_rfl
def P46 : Pl :=.z
def S46 : tE1 Tryz.prog P46 46 :=λ_ _ _=>.mk _
def P47 : Pl :=.z
def S47 : tE1 Tryz.prog P47 47 :=λ_ _ _=>.mk _
def P48 : Pl :=(.n none .z (.n none .z (.n none .z (.n none (.n none .z (.n none (.n (some [23,22,21,5]) (.n none .z (.n none .z (.n none (.n (some [23,22,21,5]) (.n none .z (.n none (.r [[35,30,23,22,21,7,5]]) .z)) .z) .z))) .z) .z)) .z))))
def S48 : tE2 Tryz.prog P48 48 :=λ_ _ _ _=>.mk _
def P49 : Pl :=(.n none .z (.n none .z (.n (some [7,5,1,0]) (.n none (.r [[19,18,7,5,1,0]]) .z) .z)))
def S49 : tE2 Tryz.prog P49 49 :=λ_ _ _ _=>.mk _
def P50 : Pl :=.z
def S50 : tE1 Tryz.prog P50 50 :=λ_ _ _=>.mk _
def P51 : Pl :=(.n none .z (.n none (.r [[13,8]]) .z))
def S51 : tE1 Tryz.prog P51 51 :=λ_ _ _=>.mk _
def P52 : Pl :=(.n none .z (.n none .z (.n none (.n none .z (.n none (.n (some [13,12,11,3,0]) .z .z) .z)) (.n (some [3]) .z .z))))
def S52 : tE1 Tryz.prog P52 52 :=λ_ _ _=>.mk _
def P53 : Pl :=.z
def S53 : tE1 Tryz.prog P53 53 :=λ_ _ _=>.mk _
def P54 : Pl :=.z
def S54 : tE1 Tryz.prog P54 54 :=λ_ _ _=>.mk _
def P55 : Pl :=(.n none .z (.n none (.r [[2]]) .z))
def S55 : tE1 Tryz.prog P55 55 :=λ_ _ _=>.mk _
def P56 : Pl :=(.n none .z (.n none .z (.n none (.n none .z (.n none (.n none .z (.n none (.n none (.r [[5,4]]) .z) .z)) .z)) (.n none (.r [[5,4]]) .z))))
def S56 : tE2 Tryz.prog P56 56 :=λ_ _ _ _=>.mk _
def P57 : Pl :=.z
def S57 : tE1 Tryz.prog P57 57 :=λ_ _ _=>.mk _
def P58 : Pl :=(.n none .z (.n none (.r [[5,4,3,2,1]]) (.n none .z (.n none .z (.n none (.n none .z (.n none (.n (some [23,22,7,6,5,4,3,2,1]) .z (.n none .z (.n none .z (.n none .z (.n none .z (.n none .z (.n none .z (.n none .z (.n (some [54,22,7,6,4,3,2,1]) .z (.n none .z (.n (some [62,22,7,6,4,3,2,1]) .z (.n none .z (.n none .z (.n none .z (.n none .z (.n none .z (.n (some [86,22,7,6,4,3,2]) .z .z))))))))))))))))) .z)) .z)))))
def S58 : tE1 Tryz.prog P58 58 :=λ_ _ _=>.mk _
def P59 : Pl :=.z
def S59 : tE1 Tryz.prog P59 59 :=λ_ _ _=>.mk _
def P60 : Pl :=.z
def S60 : tE1 Tryz.prog P60 60 :=λ_ _ _=>.mk _
def P61 : Pl :=.z
def S61 : tE2 Tryz.prog P61 61 :=λ_ _ _ _=>.mk _
def P62 : Pl :=.z
def S62 : tE1 Tryz.prog P62 62 :=λ_ _ _=>.mk _
def P63 : Pl :=.z
def S63 : tE1 Tryz.prog P63 63 :=λ_ _ _=>.mk _
def P64 : Pl :=(.n none .z (.n none .z (.n none (.n none .z (.n (some [5,4]) .z .z)) .z)))
def S64 : tE2 Tryz.prog P64 64 :=λ_ _ _ _=>.mk _
def P65 : Pl :=.z
def S65 : tE0 Tryz.prog P65 65 :=λ_ _=>.mk _
def P66 : Pl :=.z
def S66 : tE1 Tryz.prog P66 66 :=λ_ _ _=>.mk _
def P67 : Pl :=.z
def S67 : tE1 Tryz.prog P67 67 :=λ_ _ _=>.mk _
def P68 : Pl :=.z
def S68 : tE1 Tryz.prog P68 68 :=λ_ _ _=>.mk _
def P69 : Pl :=.z
def S69 (c : CV) (a0 : AV) (h : AH) : R :=
gi h 79 (.agg [(iI 0),(iI 0),(uU 0),(uU 0),(uU 0),(.bool false),(iI 0),(uU 0),(.bool false),(iI 0)]) λv0 h1=>
xm a0 λv2=>
qt v2 14 λv3=>
jN h1 v3 λv4=>
zG .eql v4 (iI 0) λv5=>
zt v5 (
xm a0 λv6=>
qt v6 0 λv7=>
jN h1 v7 λv8=>
yg [(iI 0),(iI 0),(uU 0),(uU 0),(uU 0),(.bool false),(iI 0),(uU 0),(.bool false),(iI 0)] [(0,1,(iI 9)),(1,1,v8),(3,1,(uU 1))] λv9=>
jd h1 v0 v9 10 λh10=>
zO h10 v0 10 λv11=>
some ((.tup [v11,(.bool true)]),h10)) (
zG .eql v4 (iI 1) λv12=>
zt v12 (
yg [(iI 0),(iI 0),(uU 0),(uU 0),(uU 0),(.bool false),(iI 0),(uU 0),(.bool false),(iI 0)] [(0,1,(iI 6))] λv13=>
jd h1 v0 v13 10 λh14=>
zO h14 v0 10 λv15=>
some ((.tup [v15,(.bool true)]),h14)) (
zG .eql v4 (iI 2) λv16=>
zt v16 (
xm a0 λv17=>
qt v17 0 λv18=>
jN h1 v18 λv19=>
xm a0 λv20=>
qt v20 21 λv21=>
jN h1 v21 λv22=>
zG .add v22 (uU 1) λv23=>
yg [(iI 0),(iI 0),(uU 0),(uU 0),(uU 0),(.bool false),(iI 0),(uU 0),(.bool false),(iI 0)] [(0,1,(iI 9)),(1,1,v19),(3,1,v23)] λv24=>
jd h1 v0 v24 10 λh25=>
zO h25 v0 10 λv26=>
some ((.tup [v26,(.bool true)]),h25)) (
zG .eql v4 (iI 7) λv27=>
zt v27 (
xm a0 λv28=>
qt v28 0 λv29=>
jN h1 v29 λv30=>
yg [(iI 0),(iI 0),(uU 0),(uU 0),(uU 0),(.bool false),(iI 0),(uU 0),(.bool false),(iI 0)] [(0,1,(iI 9)),(1,1,v30)] λv31=>
jd h1 v0 v31 10 λh32=>
zO h32 v0 10 λv33=>
some ((.tup [v33,(.bool true)]),h32)) (
zG .eql v4 (iI 8) λv34=>
zt v34 (
yg [(iI 0),(iI 0),(uU 0),(uU 0),(uU 0),(.bool false),(iI 0),(uU 0),(.bool false),(iI 0)] [] λv35=>
jd h1 v0 v35 10 λh36=>
zO h36 v0 10 λv37=>
some ((.tup [v37,(.bool false)]),h36)) (
xm a0 λv38=>
qt v38 15 λv39=>
jN h1 v39 λv40=>
yR c [(86,35),(127,69),(195,374),(196,382),(197,385),(379,345)] v40 [] h1 λv41 h42=>
z8 v41 0 λv43=>
z8 v41 1 λv44=>
jd h42 v0 v43 10 λh45=>
zO h45 v0 10 λv46=>
some ((.tup [v46,v44]),h45))))))
def W69 : WF :=w_1 S69
theorem W69_ok : WOk Tryz.prog 69 W69 :=Kf (pl :=P69) λ_ _ _=>by kernel_rfl
def P70 : Pl :=(.n none .z (.n none (.n (some [0]) (.n none .z (.n none .z (.n none .z (.n none (.n none .z (.n none (.n none .z (.n none (.n (some [62,61,60,2,0]) .z .z) .z)) .z)) .z)))) .z) .z))
def S70 : tE1 Tryz.prog P70 70 :=λ_ _ _=>.mk _
def P71 : Pl :=.z
def S71 : tE1 Tryz.prog P71 71 :=λ_ _ _=>.mk _
def P72 : Pl :=(.n none .z (.n none .z (.n none .z (.n none .z (.n (some []) (.n none .z (.n none .z (.n none .z (.n none (.n none (.r [[0]]) .z) .z)))) .z)))))
def S72 (c : CV) (a0 a1 : AV) (h : AH) : R :=
gi h 84 a1 λv0 h1=>
xm a0 λv2=>
qt v2 14 λv3=>
jN h1 v3 λv4=>
zG .eql v4 (iI 8) λv5=>
zt v5 (
some ((.tup []),h1)) (
qt v0 5 λv6=>
jN h1 v6 λv7=>
zG .neq v7 (iI 0) λv8=>
zt v8 (
qt v0 5 λv9=>
jN h1 v9 λv10=>
zz c (.fn 116 [] []) [a0,(iI 4),v10,(.int .i64 (.negSucc 0))] h1 λ_ h12=>
xm a0 λv13=>
qt v13 14 λv14=>
jd h12 v14 (iI 8) 1 λh15=>
some ((.tup []),h15)) (
xm a0 λv16=>
qt v16 14 λv17=>
jN h1 v17 λv18=>
yB (α :=Unit→AH→List Nat→R) (λ_ h20 d21=>
z7 d21 h20 λh23=>
some ((.tup []),h23)) λj22=>
zG .eql v18 (iI 0) λv24=>
zt v24 (
xm a0 λv25=>
qt v25 14 λv26=>
jd h1 v26 (iI 1) 1 λh27=>
j22 (()) h27 []) (
zG .eql v18 (iI 1) λv28=>
zt v28 (
yB (α :=AV×Unit→AH→R) (λs29 h30=>
xm s29.1 λv32=>
qt v32 14 λv33=>
jd h30 v33 (iI 2) 1 λh34=>
j22 (()) h34 []) λj31=>
qt v0 0 λv35=>
jN h1 v35 λv36=>
qt v0 0 λv37=>
jN h1 v37 λv38=>
xm a0 λv39=>
qt v39 19 λv40=>
jd h1 v40 (.bool true) 1 λh41=>
xm a0 λv42=>
qt v42 20 λv43=>
jd h41 v43 v36 1 λh44=>
xm a0 λv45=>
qt v45 21 λv46=>
jd h44 v46 v38 1 λh47=>
Jz v37 none v38 h41 h44 h1.nx<|
Jz v37 none v38 h1 h41 h1.nx<|
Jz v35 none v36 h1 h41 h1.nx<|
j31 (a0,()) h47) (
zG .eql v18 (iI 2) λv48=>
zt v48 (
zz c (.fn 117 [] []) [a0] h1 λ_ h50=>
j22 (()) h50 []) (
zG .eql v18 (iI 7) λv51=>
zt v51 (
xm a0 λv52=>
qt v52 14 λv53=>
jd h1 v53 (iI 8) 1 λh54=>
j22 (()) h54 []) (
xm a0 λv55=>
qt v55 15 λv56=>
jN h1 v56 λv57=>
zO h1 v0 6 λv58=>
yR c [(86,37),(127,72),(195,375),(196,383),(197,386)] v57 [v58] h1 λ_ h60=>
zz c (.fn 118 [] []) [a0] h60 λ_ h62=>
j22 (()) h62 []))))))
def W72 : WF :=w_2 S72
theorem W72_ok : WOk Tryz.prog 72 W72 :=qX2 (pl :=P72) λ_ _ _ _=>by kernel_rfl
def P73 : Pl :=.z
def S73 : tE1 Tryz.prog P73 73 :=λ_ _ _=>.mk _
def P74 : Pl :=(.n none .z (.n none (.r [[6,1,0]]) (.n none .z (.n (some []) (.n none .z (.n none (.n none .z (.n none (.n none (.r [[87,6,1,0]]) .z) .z)) (.n none .z (.n none .z (.n none .z (.n none .z (.n none (.r [[6,0]]) (.n none (.r [[0]]) .z)))))))) .z))))
def S74 : tE3 Tryz.prog P74 74 :=λ_ _ _ _ _=>.mk _
def P75 : Pl :=(.n none .z (.n none (.n none (.r [[12,9,4,2,0],[20,14,4,2,0],[27,20,14,4,2,0],[28,14,4,2,0]]) (.n none (.n none (.r [[]]) .z) .z)) .z))
def S75 : tE3 Tryz.prog P75 75 :=λ_ _ _ _ _=>.mk _
def P76 : Pl :=.z
def S76 : tE2 Tryz.prog P76 76 :=λ_ _ _ _=>.mk _
def P77 : Pl :=.z
def S77 : tE1 Tryz.prog P77 77 :=λ_ _ _=>.mk _
def P78 : Pl :=(.n none .z (.n none (.r [[12,8]]) .z))
def S78 : tE1 Tryz.prog P78 78 :=λ_ _ _=>.mk _
def P79 : Pl :=.z
def S79 : tE1 Tryz.prog P79 79 :=λ_ _ _=>.mk _
def P80 : Pl :=.z
def S80 : tE2 Tryz.prog P80 80 :=λ_ _ _ _=>.mk _
def P81 : Pl :=.z
def S81 : tE1 Tryz.prog P81 81 :=λ_ _ _=>.mk _
def P82 : Pl :=.z
def S82 : tE3 Tryz.prog P82 82 :=λ_ _ _ _ _=>.mk _
def P83 : Pl :=(.n none .z (.n none (.n none (.r [[16,12,1]]) .z) (.n none .z (.n none (.n none .z (.n none (.n (some [21,20,19,4,1]) .z .z) .z)) (.n none .z (.n none (.r [[3,2]]) .z))))))
def S83 : tE1 Tryz.prog P83 83 :=λ_ _ _=>.mk _
def P84 : Pl :=(.n none .z (.n none .z (.n none .z (.n none .z (.n none (.n none .z (.n none (.n (some [27,26,6,5,1]) .z .z) .z)) (.n none (.n none .z (.n none (.n (some [37,36,35,6,5,1]) (.n none .z (.n none .z (.n none (.n (some [37,36,35,6,5,1]) .z .z) .z))) .z) .z)) (.n none (.n none .z (.n none (.n (some [57,56,55,6,5]) (.n none .z (.n none .z (.n none (.n (some [57,56,55,6,5]) .z .z) .z))) .z) .z)) .z)))))))
def S84 : tE1 Tryz.prog P84 84 :=λ_ _ _=>.mk _
def P85 : Pl :=.z
def S85 : tE0 Tryz.prog P85 85 :=λ_ _=>.mk _
def P86 : Pl :=.z
def S86 : tE2 Tryz.prog P86 86 :=λ_ _ _ _=>.mk _
def P87 : Pl :=(.n none .z (.n none .z (.n none (.n none .z (.n (some []) (.n none .z (.n none .z (.n none .z (.n none .z (.n none .z (.n none .z (.n none .z (.n none .z (.n none .z (.n none .z (.n none .z (.n none .z (.n none .z (.n none .z (.n none .z (.n none .z (.n none .z (.n none .z (.n none .z (.n none .z (.n none .z (.n none .z (.n none .z (.n none .z (.n (some [120,6,5,3,0]) .z .z))))))))))))))))))))))))) .z)) .z)))
def S87 : tE2 Tryz.prog P87 87 :=λ_ _ _ _=>.mk _
def P88 : Pl :=.z
def S88 : tE1 Tryz.prog P88 88 :=λ_ _ _=>.mk _
def P89 : Pl :=.z
def S89 (c : CV) (a0 : AV) (h : AH) : R :=
x9 22 (uU 0) a0 λv0=>
z8 v0 1 λv1=>
z8 v0 0 λv2=>
zt v1 (
zz c (.fn 144 [] []) [v2,(iI 10)] h λv3 h4=>
some (v3,h4)) (
x9 4 (.bool false) a0 λv5=>
z8 v5 1 λv6=>
z8 v5 0 λv7=>
zt v6 (
zt v7 (
some ((.str [121,101,115]),h)) (
some ((.str [110,111]),h))) (
some ((.str [110,111,110,101]),h)))
def W89 : WF :=w_1 S89
theorem W89_ok : WOk Tryz.prog 89 W89 :=Kf (pl :=P89) λ_ _ _=>by kernel_rfl
def P91 : Pl :=(.n none .z (.n none .z (.n none (.n none .z (.n none (.n (some [3]) .z .z) .z)) .z)))
def S91 (c : CV) (a0 : AV) (h : AH) : R :=
gi h 44 .nils λv0 h1=>
xm a0 λv2=>
qt v2 1 λv3=>
jN h1 v3 λv4=>
zz c (.fn 148 [] []) [v4] h1 λv5 h6=>
Jr c v5 [.yield (h6.new .dfd).nx] ((h6.new .dfd).new (.loop .ready none 91 [1,1,0,1,0] [3] [v0] h6.nx)) λ_ h7=>
vC h7 (h6.new .dfd).nx λp9 h8=>
Xj p9 (
jN h8 v0 λv10=>
z7 (h6.nx::[]) h8 λh11=>
some (v10,h11))<|
none
def W91 : WF :=w_1 S91
theorem W91_ok : WOk Tryz.prog 91 W91 :=Kf (pl :=P91) λ_ _ _=>by kernel_rfl
def P92 : Pl :=(.n none .z (.n none .z (.n none (.n none .z (.n none (.n (some [11,10,9,3]) .z .z) .z)) .z)))
def S92 : tE1 Tryz.prog P92 92 :=λ_ _ _=>.mk _
def P93 : Pl :=(.n none .z (.n none (.n none (.r [[17,13,1,0]]) .z) .z))
def S93 : tE2 Tryz.prog P93 93 :=λ_ _ _ _=>.mk _
def P94 : Pl :=.z
def S94 : tE2 Tryz.prog P94 94 :=λ_ _ _ _=>.mk _
def P95 : Pl :=.z
def S95 : tE1 Tryz.prog P95 95 :=λ_ _ _=>.mk _
def P96 : Pl :=(.n none .z (.n none (.n none .z (.n none (.n (some [9,8,7,1,0]) .z .z) .z)) .z))
def S96 : tE2 Tryz.prog P96 96 :=λ_ _ _ _=>.mk _
def P97 : Pl :=.z
def S97 : tE1 Tryz.prog P97 97 :=λ_ _ _=>.mk _
def P98 : Pl :=(.n none .z (.n none (.r [[13,8,0],[21,15,0],[27,21,15],[28,15]]) .z))
def S98 : tE1 Tryz.prog P98 98 :=λ_ _ _=>.mk _
def P99 : Pl :=(.n none .z (.n none (.r [[2,1]]) .z))
def S99 : tE1 Tryz.prog P99 99 :=λ_ _ _=>.mk _
def P100 : Pl :=(.n none .z (.n none .z (.n none .z (.n none .z (.n (some [8,6,5,4,1,0]) .z (.n none (.r [[4]]) .z))))))
def S100 : tE2 Tryz.prog P100 100 :=λ_ _ _ _=>.mk _
def P101 : Pl :=.z
def S101 : tE1 Tryz.prog P101 101 :=λ_ _ _=>.mk _
def P102 : Pl :=.z
def S102 : tE1 Tryz.prog P102 102 :=λ_ _ _=>.mk _
def P103 : Pl :=.z
def S103 : tE1 Tryz.prog P103 103 :=λ_ _ _=>.mk _
def P104 : Pl :=.z
def S104 : tE2 Tryz.prog P104 104 :=λ_ _ _ _=>.mk _
def P105 : Pl :=.z
def S105 : tE2 Tryz.prog P105 105 :=λ_ _ _ _=>.mk _
def P106 : Pl :=.z
def S106 : tE3 Tryz.prog P106 106 :=λ_ _ _ _ _=>.mk _
def P107 : Pl :=.z
def S107 : tE2 Tryz.prog P107 107 :=λ_ _ _ _=>.mk _
def P108 : Pl :=.z
def S108 (c : CV) (a0 a1 a2 a3 : AV) (h : AH) : R :=
gi h 77 a2 λv0 h1=>
gi h1 77 a3 λv2 h3=>
zO h3 v2 3 λv4=>
zz c (.fn 165 [] []) [a0,a1,v4] h3 λv5 h6=>
zG .neq v5 (iI 0) λv7=>
zt v7 (
some ((.tup [(.bool false),v5]),h6)) (
xm a0 λv8=>
qt v8 0 λv9=>
jN h6 v9 λv10=>
gF v10 a1 3 λv11=>
zO h6 v11 3 λv12=>
zO h6 v0 3 λv13=>
G4 [.bas .int 0,.bas .bool 1,.bas .int 2] true v12 v13 λv14=>
zt v14 (
some ((.tup [(.bool false),(iI 0)]),h6)) (
xm a0 λv15=>
qt v15 0 λv16=>
jN h6 v16 λv17=>
zO h6 v2 3 λv18=>
gF v17 a1 3 λv19=>
jd h6 v19 v18 3 λh20=>
some ((.tup [(.bool true),(iI 0)]),h20)))
def W108 : WF :=w_4 S108
theorem W108_ok : WOk Tryz.prog 108 W108 :=qyp (pl :=P108) λ_ _ _ _ _ _=>by kernel_rfl
def P109 : Pl :=(.n none .z (.n none .z (.n (some [7]) .z .z)))
def S109 : tE3 Tryz.prog P109 109 :=λ_ _ _ _ _=>.mk _
def P110 : Pl :=.z
def S110 : tE3 Tryz.prog P110 110 :=λ_ _ _ _ _=>.mk _
def P111 : Pl :=.z
def S111 : tE2 Tryz.prog P111 111 :=λ_ _ _ _=>.mk _
def P112 : Pl :=.z
def S112 : tE3 Tryz.prog P112 112 :=λ_ _ _ _ _=>.mk _
def P113 : Pl :=.z
def S113 : tE1 Tryz.prog P113 113 :=λ_ _ _=>.mk _
def P114 : Pl :=.z
def S114 : tE3 Tryz.prog P114 114 :=λ_ _ _ _ _=>.mk _
def P115 : Pl :=.z
def S115 : tE3 Tryz.prog P115 115 :=λ_ _ _ _ _=>.mk _
def P116 : Pl :=.z
def S116 : tE4 Tryz.prog P116 116 :=λ_ _ _ _ _ _=>.mk _
def P117 : Pl :=(.n none .z (.n none .z (.n (some []) (.n none .z (.n none .z (.n none .z (.n none .z (.n none .z (.n none .z (.n none .z (.n none .z (.n none (.r [[0]]) .z))))))))) .z)))
def S117 : tE1 Tryz.prog P117 117 :=λ_ _ _=>.mk _
def P118 : Pl :=(.n none (.n none .z (.n (some [0]) .z .z)) .z)
def S118 (c : CV) (a0 : AV) (h : AH) : R :=
xm a0 λv0=>
qt v0 15 λv1=>
jN h v1 λv2=>
yR c [(127,73),(195,290),(196,294),(197,156),(329,218)] v2 [] h λv3 h4=>
yB (α :=AV×Unit→AH→List Nat→R) (λs5 h6 d7=>
zz c (.fn 98 [] []) [s5.1] h6 λv9 h10=>
zt v9 (
xm s5.1 λv11=>
qt v11 18 λv12=>
jN h10 v12 λv13=>
zz c (.fn 175 [] []) [v13] h10 λv14 h15=>
xm s5.1 λv16=>
qt v16 21 λv17=>
jd h15 v17 v14 1 λh18=>
z7 d7 h18 λh19=>
some ((.tup []),h19)) (
z7 d7 h10 λh20=>
some ((.tup []),h20))) λj8=>
zG .eql v3 (iI 0) λv21=>
zt v21 (
j8 (a0,()) h4 []) (
zG .eql v3 (iI 5) λv22=>
zt v22 (
xm a0 λv23=>
qt v23 15 λv24=>
jN h4 v24 λv25=>
yR c [(127,119),(195,373),(196,381),(197,384),(329,376)] v25 [] h4 λv26 h27=>
zz c (.fn 116 [] []) [a0,(iI 5),(iI 0),v26] h27 λ_ h29=>
j8 (a0,()) h29 []) (
zz c (.fn 174 [] []) [a0] h4 λ_ h31=>
j8 (a0,()) h31 []))
def W118 : WF :=w_1 S118
theorem W118_ok : WOk Tryz.prog 118 W118 :=Kf (pl :=P118) λ_ _ _=>by kernel_rfl
def P119 : Pl :=.z
def S119 : tE1 Tryz.prog P119 119 :=λ_ _ _=>.mk _
def P120 : Pl :=(.n none .z (.n none (.n none .z (.n none (.n (some [11,10,4,1,0]) .z .z) .z)) .z))
def S120 : tE2 Tryz.prog P120 120 :=λ_ _ _ _=>.mk _
def P121 : Pl :=(.n (some [0]) (.n none .z (.n none (.n none .z (.n none (.n (some [14,13,12,0]) .z .z) .z)) .z)) .z)
def S121 : tE2 Tryz.prog P121 121 :=λ_ _ _ _=>.mk _
def P122 : Pl :=.z
def S122 : tE1 Tryz.prog P122 122 :=λ_ _ _=>.mk _
def P123 : Pl :=(.n none .z (.n none (.n none (.r [[11,6,0]]) .z) .z))
def S123 : tE1 Tryz.prog P123 123 :=λ_ _ _=>.mk _
def P124 : Pl :=.z
def S124 : tE1 Tryz.prog P124 124 :=λ_ _ _=>.mk _
def P125 : Pl :=(.n none .z (.n none (.n (some [10,9,8,1,0]) .z .z) .z))
def S125 : tE3 Tryz.prog P125 125 :=λ_ _ _ _ _=>.mk _
def P126 : Pl :=.z
def S126 : tE1 Tryz.prog P126 126 :=λ_ _ _=>.mk _
def P127 : Pl :=.z
def S127 : tE1 Tryz.prog P127 127 :=λ_ _ _=>.mk _
def P128 : Pl :=(.n (some [0]) .z .z)
def S128 : tE1 Tryz.prog P128 128 :=λ_ _ _=>.mk _
def P129 : Pl :=.z
def S129 : tE1 Tryz.prog P129 129 :=λ_ _ _=>.mk _
def P130 : Pl :=.z
def S130 : tE1 Tryz.prog P130 130 :=λ_ _ _=>.mk _
def P131 : Pl :=(.n none .z (.n none (.r [[14,7]]) .z))
def S131 : tE2 Tryz.prog P131 131 :=λ_ _ _ _=>.mk _
def P132 : Pl :=(.n none .z (.n none (.n none (.n none .z (.n none .z (.n none (.r [[11,5,3,1]]) (.n none .z (.n none (.r [[33,29,5,1]]) (.n none .z (.n none (.r [[42,39]]) .z))))))) .z) .z))
def S132 : tE3 Tryz.prog P132 132 :=λ_ _ _ _ _=>.mk _
def P133 : Pl :=(.n none .z (.n (some [2,1,0]) .z (.n (some [0]) (.n none (.r [[19,17,1,0]]) .z) .z)))
def S133 : tE3 Tryz.prog P133 133 :=λ_ _ _ _ _=>.mk _
def P134 : Pl :=.z
def S134 : tE1 Tryz.prog P134 134 :=λ_ _ _=>.mk _
def P135 : Pl :=(.n none .z (.n none (.n none .z (.n none (.n (some [11,10,9,2,1]) (.n none .z (.n none .z (.n none (.n (some [11,10,9,2,1]) (.n none .z (.n none .z (.n none (.r [[33,26,11,10,9,7,6,2,1],[38,33,26,11,10,9,7,6,2,1],[39,26,11,10,9,7,6,2,1],[48,41,11,10,9,7,6,2,1],[58,48,41,11,10,9,6,2,1],[59,41,11,10,9,6,2,1]]) .z))) .z) .z))) .z) .z)) .z))
def S135 : tE2 Tryz.prog P135 135 :=λ_ _ _ _=>.mk _
def P136 : Pl :=(.n none .z (.n none .z (.n none .z (.n none (.n none .z (.n none (.n (some [14,13,12,4,3]) .z .z) .z)) .z))))
def S136 : tE1 Tryz.prog P136 136 :=λ_ _ _=>.mk _
def P137 : Pl :=.z
def S137 : tE1 Tryz.prog P137 137 :=λ_ _ _=>.mk _
def P138 : Pl :=.z
def S138 : tE1 Tryz.prog P138 138 :=λ_ _ _=>.mk _
def P139 : Pl :=.z
def S139 : tE2 Tryz.prog P139 139 :=λ_ _ _ _=>.mk _
def P140 : Pl :=(.n none .z (.n none .z (.n none (.n none .z (.n none (.n none .z (.n none (.n none (.r [[4]]) .z) (.n none .z (.n none (.n none (.r [[4]]) .z) (.n none .z (.n none (.n none (.r [[4]]) .z) (.n none .z (.n none (.n none (.r [[4]]) .z) (.n none .z (.n none (.n none (.r [[4]]) .z) (.n none .z (.n none (.n none (.r [[4]]) .z) (.n none .z (.n none .z (.n none .z (.n none .z (.n none .z (.n none (.n none (.r [[4]]) .z) (.n none .z (.n none (.n none (.r [[4]]) .z) (.n none .z (.n none (.n none (.r [[4]]) .z) .z)))))))))))))))))))))) .z)) .z)))
def S140 : tE2 Tryz.prog P140 140 :=λ_ _ _ _=>.mk _
def P141 : Pl :=(.n none .z (.n none (.n none .z (.n none (.n none .z (.n none (.n none .z (.n none .z (.n none .z (.n (some [10]) .z .z)))) (.n none .z (.n none .z (.n none .z (.n none (.n none .z (.n none .z (.n (some [15]) .z .z))) .z)))))) .z)) .z))
def S141 : tE4 Tryz.prog P141 141 :=λ_ _ _ _ _ _=>.mk _
end
end Go.Proofs.YtbiljkdgeekpbacGreatDoor
