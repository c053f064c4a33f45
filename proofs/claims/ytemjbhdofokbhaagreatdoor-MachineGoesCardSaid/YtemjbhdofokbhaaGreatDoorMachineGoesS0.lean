/- Printed by a program of mine: the bodies of the program's functions aa terms of the primitives of the abstract executor, each shown equal by the kernel. -/
import Derived.Test.YtemjbhdofokbhaaGreatDoorProg
import Derived.Test.YtemjbhdofokbhaaGreatDoorMachineGoesAe1
import Derived.KernelRfl
namespace Go.Proofs.YtemjbhdofokbhaaGreatDoor
open Go Go.Ae
set_option maxRecDepth 100000
noncomputable section
attribute [local irreducible] xA Qc QW yB jJ KJ Yt w4 Jg YR YS wF ji zp zV zB kC ug n8 UW rX gt YI KZ CP wB yh wI yM Qd xC Qb J2 o8 w5 yi xL JY vw xk Ze U6 OC CQ ZX Oo zS vV X5 Xz Xh yx gE Bp Yv NO xB yp Gc AV.undef
set_option maxHeartbeats 40000000
def P3 : Pl :=(.n none .z (.n none .z (.n none .z (.n none .z (.n none .z (.n none (.n none (.r [[33,31,10,9,3,2]]) .z) (.n none (.n none .z (.n none (.n (some [11,10,9,3,2]) (.n none (.n none (.r [[41,39,11,10,9,3,2]]) .z) (.n none (.n none (.n none .z (.n none (.n (some [12,11,10,9,3,2]) (.n none .z (.n none (.n none (.r [[12,11,10,9,3,2]]) .z) .z)) .z) .z)) .z) .z)) .z) .z)) (.n none .z (.n none (.n none .z (.n none (.n (some [14,13,10,9,3]) (.n none (.n none (.r [[77,74,14,13,10,9,3]]) .z) (.n none (.n none (.n none .z (.n (some [15,14,13,10,9,3]) .z (.n none (.n none .z (.n none (.n (some [16,15,14,13,10,9,3]) (.n none .z (.n none (.n none (.r [[16,15,14,13,10,9,3]]) .z) .z)) .z) .z)) (.n none (.n none .z (.n none (.n (some [17,15,14,13,10,9,3]) (.n none .z (.n none (.n none (.r [[17,15,14,13,10,9,3]]) .z) .z)) .z) .z)) (.n none (.r [[133,129,14,13,10,9,3]]) .z))))) .z) .z)) .z) .z)) .z)))))))))
def S3 : lZ Tryz.prog P3 3 :=λ_ _ _ _ _ _=>.mk _
def P4 : Pl :=(.n none .z (.n none .z (.n none .z (.n none .z (.n none .z (.n none (.n none .z (.n none (.n (some [4,3]) .z .z) .z)) (.n none .z (.n none (.r [[37,34,6,5,3],[43,39,6,5,3],[49,45,6,3],[54,51,6,3],[59,56,6,3],[66,61,3],[71,68,3],[76,73,3],[81,78,3],[85,83,3],[90,87,3],[96,92,3],[102,98,3],[108,104,3],[114,110,3],[121,116]]) .z))))))))
def S4 : Bq Tryz.prog P4 4 :=λ_ _=>.mk _
def P5 : Pl :=(.n none .z (.n none .z (.n none .z (.n none .z (.n none (.r [[5,2,1]]) (.n none (.n none .z (.n none (.n (some [32,31,30,5,2,1]) (.n none .z (.n none .z (.n none (.n (some [32,31,30,5,2,1]) .z .z) .z))) .z) .z)) (.n none (.n none .z (.n none (.n (some [51,50,5,2,1]) (.n none .z (.n none .z (.n none (.n none (.n none .z (.n none .z (.n (some [51,50,9,8,5,2,1]) .z (.r [[51,50,5,2,1]])))) .z) .z))) .z) .z)) .z)))))))
def S5 : bW Tryz.prog P5 5 :=λ_ _ _ _=>.mk _
def P6 : Pl :=(.n none .z (.n none (.r [[3,2,1]]) (.n none (.r [[3,2]]) .z)))
def S6 : aY Tryz.prog P6 6 :=λ_ _ _=>.mk _
def P7 : Pl :=(.n none .z (.n none .z (.n none (.n none .z (.n none (.n (some [8,7,2,1,0]) (.n none (.n none (.r [[17,15,8,7,2,1,0]]) .z) (.n none (.n none (.n none .z (.n none (.n none .z (.n none (.n (some [10,9,8,7,2,1,0]) (.n none (.n none (.r [[30,28,10,9,8,7,2,1,0]]) .z) .z) .z) .z)) .z)) .z) .z)) .z) .z)) .z)))
def S7 : dp Tryz.prog P7 7 :=λ_ _ _ _ _=>.mk _
def P8 : Pl :=.z
def S8 : aY Tryz.prog P8 8 :=λ_ _ _=>.mk _
def P9 : Pl :=(.n none .z (.n none .z (.n (some [1,0]) .z .z)))
def S9 : dp Tryz.prog P9 9 :=λ_ _ _ _ _=>.mk _
def P10 : Pl :=(.n none .z (.n none (.n none (.r [[19,12,2,1,0]]) .z) (.n none .z (.n none .z (.n none .z (.n none .z (.n none (.r [[1,0]]) (.n none .z (.n none (.n none .z (.n none (.n (some [80,79,78,1,0]) (.n none .z (.n none .z (.n none (.n (some [80,79,78,1,0]) .z .z) .z))) .z) .z)) .z)))))))))
def S10 : dp Tryz.prog P10 10 :=λ_ _ _ _ _=>.mk _
def P11 : Pl :=(.n none .z (.n none .z (.n none .z (.n none (.n none .z (.n none (.n (some [5,4,3]) (.n none .z (.n none (.n (some [5,4,3]) (.n none (.r [[27,20,5,4,3],[33,27,20,5,4,3],[34,20,5,4,3]]) .z) .z) .z)) .z) .z)) .z))))
def S11 : aY Tryz.prog P11 11 :=λ_ _ _=>.mk _
def P12 : Pl :=(.n none .z (.n none (.n none .z (.n none (.n (some [11,10,9]) (.n none .z (.n none .z (.n none (.n none (.n none .z (.n none .z (.n none (.r [[21,19,11,10,9]]) .z))) .z) .z))) .z) .z)) .z))
def S12 : aY Tryz.prog P12 12 :=λ_ _ _=>.mk _
def P13 : Pl :=.z
def S13 : aY Tryz.prog P13 13 :=λ_ _ _=>.mk _
def P14 : Pl :=.z
def S14 : bW Tryz.prog P14 14 :=λ_ _ _ _=>.mk _
def P15 : Pl :=.z
def S15 : bW Tryz.prog P15 15 :=λ_ _ _ _=>.mk _
def P16 : Pl :=.z
def S16 : aY Tryz.prog P16 16 :=λ_ _ _=>.mk _
def P17 : Pl :=.z
def S17 : aY Tryz.prog P17 17 :=λ_ _ _=>.mk _
def P18 : Pl :=(.n none .z (.n none (.n none .z (.n none (.n (some [10,9,8]) .z .z) .z)) .z))
def S18 : aY Tryz.prog P18 18 :=λ_ _ _=>.mk _
def P19 : Pl :=(.n none .z (.n none .z (.n none (.n none .z (.n none (.n (some [11,10,9,3]) .z .z) .z)) .z)))
def S19 : aY Tryz.prog P19 19 :=λ_ _ _=>.mk _
def P20 : Pl :=.z
def S20 : aY Tryz.prog P20 20 :=λ_ _ _=>.mk _
def P21 : Pl :=.z
def S21 : aY Tryz.prog P21 21 :=λ_ _ _=>.mk _
def P22 : Pl :=.z
def S22 : bW Tryz.prog P22 22 :=λ_ _ _ _=>.mk _
def P23 : Pl :=.z
def S23 : aY Tryz.prog P23 23 :=λ_ _ _=>.mk _
def P24 : Pl :=(.n none .z (.n none (.r [[2]]) .z))
def S24 : aY Tryz.prog P24 24 :=λ_ _ _=>.mk _
def P25 : Pl :=(.n none .z (.n none .z (.n none (.r [[2]]) .z)))
def S25 : aY Tryz.prog P25 25 :=λ_ _ _=>.mk _
def P26 : Pl :=.z
def S26 : aY Tryz.prog P26 26 :=λ_ _ _=>.mk _
def P27 : Pl :=(.n none .z (.n none .z (.n (some [5,4]) .z .z)))
def S27 : bW Tryz.prog P27 27 :=λ_ _ _ _=>.mk _
def P28 : Pl :=(.n none .z (.n none .z (.n none (.r [[7,2]]) (.n none (.n none .z (.n none (.n (some [29,28,27,7]) (.n none .z (.n none .z (.n none (.n none (.n none .z (.r [[29,28,27,7]])) .z) .z))) .z) .z)) .z))))
def S28 : dp Tryz.prog P28 28 :=λ_ _ _ _ _=>.mk _
def P29 : Pl :=(.n none .z (.n none .z (.n none .z (.n none (.n none .z (.n (some [8,7,6]) (.n (some [9,8,7,6,2,1,0]) (.n none .z (.n none (.n none (.n none .z (.n none .z (.n none .z (.n none .z (.n (some [9,8,7,6,2,1,0]) (.n none (.r [[46,44,12,11,10,9,8,7,6,2,1,0]]) (.n none .z (.n none (.r [[60,58,12,11,10,9,8,7,6,2,1,0],[64,62,12,11,10,9,8,7,6,2,1,0]]) (.n none .z (.n none (.r [[78,76,12,11,10,9,8,7,6,2,1,0],[82,80,12,11,10,9,8,7,6,2,1,0]]) (.n none .z (.n none (.r [[95,93,12,11,10,9,8,7,6,2,1,0],[103,97,12,11,10,9,8,7,6,2,1,0]]) (.n none .z (.n none (.r [[114,112,12,11,10,9,8,7,6,2,1,0],[118,116,12,11,10,9,8,7,6,2,1,0],[122,120,12,10,9,8,7,6,2,1,0]]) (.n none .z (.n none (.r [[140,138,12,10,9,8,7,6,2,1,0]]) (.n none .z (.n none (.r [[158,156,12,10,9,8,7,6,2,1,0]]) (.n none .z (.n none (.r [[176,174,12,10,9,8,7,6,2,1,0]]) (.n none (.r [[9,8,7,6,2,1,0]]) (.n none (.r [[195,193,10,9,8,7,6,2,1,0]]) (.n none (.r [[9,8,7,6,2,1,0]]) .z)))))))))))))))))) .z))))) .z) .z)) .z) .z)) (.n none (.n none (.n (some [8,7,6]) .z .z) .z) (.n (some [7,6]) .z .z))))))
def S29 : dp Tryz.prog P29 29 :=λ_ _ _ _ _=>.mk _
def P30 : Pl :=.z
def S30 : aY Tryz.prog P30 30 :=λ_ _ _=>.mk _
def P31 : Pl :=.z
def S31 : aY Tryz.prog P31 31 :=λ_ _ _=>.mk _
def P32 : Pl :=(.n none .z (.n none .z (.n (some []) (.n none .z (.n none (.n none .z (.n none .z (.n (some [3,2,0]) (.n none .z (.n none (.r [[43,41,3,2,0]]) .z)) .z))) (.n none .z (.n none .z (.n none .z (.n none (.n (some [5,0]) .z .z) .z)))))) .z)))
def S32 : lZ Tryz.prog P32 32 :=λ_ _ _ _ _ _=>.mk _
def P33 : Pl :=(.n none .z (.n none .z (.n none (.n (some [19,18,17,2,1,0]) (.n none .z (.n none .z (.n none (.n none (.n none .z (.n none (.n none (.r [[31,27,19,18,17,2,1,0]]) .z) (.n (some []) (.n none .z (.n none .z (.n none (.r [[50,45,0]]) .z))) .z))) .z) .z))) .z) .z)))
def S33 : dp Tryz.prog P33 33 :=λ_ _ _ _ _=>.mk _
def P34 : Pl :=.z
def S34 : aY Tryz.prog P34 34 :=λ_ _ _=>.mk _
def P35 : Pl :=.z
def S35 : aY Tryz.prog P35 35 :=λ_ _ _=>.mk _
def P36 : Pl :=(.n none .z (.n none (.n none (.r [[14,7,1,0]]) .z) .z))
def S36 : bW Tryz.prog P36 36 :=λ_ _ _ _=>.mk _
def P37 : Pl :=.z
def S37 : aY Tryz.prog P37 37 :=λ_ _ _=>.mk _
def P38 : Pl :=.z
def S38 : aY Tryz.prog P38 38 :=λ_ _ _=>.mk _
def P39 : Pl :=(.n none .z (.n none (.r [[13,8]]) .z))
def S39 : aY Tryz.prog P39 39 :=λ_ _ _=>.mk _
def P40 : Pl :=(.n none .z (.n none .z (.n none (.n none .z (.n none (.n (some [13,12,11,3,0]) .z .z) .z)) (.n (some [3]) .z .z))))
def S40 : aY Tryz.prog P40 40 :=λ_ _ _=>.mk _
def P41 : Pl :=.z
def S41 : aY Tryz.prog P41 41 :=λ_ _ _=>.mk _
def P42 : Pl :=.z
def S42 : aY Tryz.prog P42 42 :=λ_ _ _=>.mk _
def P43 : Pl :=(.n none .z (.n none (.r [[2]]) .z))
def S43 : aY Tryz.prog P43 43 :=λ_ _ _=>.mk _
def P44 : Pl :=.z
def S44 : aY Tryz.prog P44 44 :=λ_ _ _=>.mk _
def P45 : Pl :=.z
def S45 : aY Tryz.prog P45 45 :=λ_ _ _=>.mk _
def P46 : Pl :=.z
def S46 : bW Tryz.prog P46 46 :=λ_ _ _ _=>.mk _
def P47 : Pl :=.z
def S47 : aY Tryz.prog P47 47 :=λ_ _ _=>.mk _
def P48 : Pl :=.z
def S48 : aY Tryz.prog P48 48 :=λ_ _ _=>.mk _
def P49 : Pl :=(.n none .z (.n none .z (.n none (.n none .z (.n (some [5,4]) .z .z)) .z)))
def S49 : bW Tryz.prog P49 49 :=λ_ _ _ _=>.mk _
def P50 : Pl :=.z
def S50 : Bq Tryz.prog P50 50 :=λ_ _=>.mk _
def P51 : Pl :=.z
def S51 : aY Tryz.prog P51 51 :=λ_ _ _=>.mk _
def P52 : Pl :=.z
def S52 : aY Tryz.prog P52 52 :=λ_ _ _=>.mk _
def P53 : Pl :=(.n none .z (.n none .z (.n none (.n none .z (.n none (.n none .z (.n none (.n none (.r [[5,4]]) .z) .z)) .z)) (.n none (.r [[5,4]]) .z))))
def S53 : bW Tryz.prog P53 53 :=λ_ _ _ _=>.mk _
def P54 : Pl :=.z
def S54 : aY Tryz.prog P54 54 :=λ_ _ _=>.mk _
def P55 : Pl :=(.n none .z (.n none (.r [[5,4,3,2,1]]) (.n none .z (.n none .z (.n none (.n none .z (.n none (.n (some [23,22,7,6,5,4,3,2,1]) .z (.n none .z (.n none .z (.n none .z (.n none .z (.n none .z (.n none .z (.n none .z (.n (some [54,22,7,6,4,3,2,1]) .z (.n none .z (.n (some [62,22,7,6,4,3,2,1]) .z (.n none .z (.n none .z (.n none .z (.n none .z (.n none .z (.n (some [86,22,7,6,4,3,2]) .z .z))))))))))))))))) .z)) .z)))))
def S55 : aY Tryz.prog P55 55 :=λ_ _ _=>.mk _
def P56 : Pl :=.z
def S56 (c : CV) (a0 : AV) (h : AH) : R :=
w5 h 72 (.agg [(iI 0),(iI 0),(uU 0),(uU 0),(uU 0),(.bool false),(iI 0),(uU 0),(.bool false),(iI 0)]) λv0 h1=>
yB a0 λv2=>
jJ v2 14 λv3=>
ji h1 v3 λv4=>
zB .eql v4 (iI 0) λv5=>
xA v5 (
yB a0 λv6=>
jJ v6 0 λv7=>
ji h1 v7 λv8=>
yi [(iI 0),(iI 0),(uU 0),(uU 0),(uU 0),(.bool false),(iI 0),(uU 0),(.bool false),(iI 0)] [(0,1,(iI 9)),(1,1,v8),(3,1,(uU 1))] λv9=>
zV h1 v0 v9 10 λeM=>
zp eM v0 10 λv11=>
some ((.cn [v11,(.bool true)]),eM)) (
zB .eql v4 (iI 1) λv12=>
xA v12 (
yi [(iI 0),(iI 0),(uU 0),(uU 0),(uU 0),(.bool false),(iI 0),(uU 0),(.bool false),(iI 0)] [(0,1,(iI 6))] λog=>
zV h1 v0 og 10 λoO=>
zp oO v0 10 λsY=>
some ((.cn [sY,(.bool true)]),oO)) (
zB .eql v4 (iI 2) λrN=>
xA rN (
yB a0 λrp=>
jJ rp 0 λoP=>
ji h1 oP λuH=>
yB a0 λv20=>
jJ v20 21 λv21=>
ji h1 v21 λv22=>
zB .add v22 (uU 1) λrO=>
yi [(iI 0),(iI 0),(uU 0),(uU 0),(uU 0),(.bool false),(iI 0),(uU 0),(.bool false),(iI 0)] [(0,1,(iI 9)),(1,1,uH),(3,1,rO)] λv24=>
zV h1 v0 v24 10 λRL=>
zp RL v0 10 λuI=>
some ((.cn [uI,(.bool true)]),RL)) (
zB .eql v4 (iI 7) λuJ=>
xA uJ (
yB a0 λv28=>
jJ v28 0 λE8=>
ji h1 E8 λv30=>
yi [(iI 0),(iI 0),(uU 0),(uU 0),(uU 0),(.bool false),(iI 0),(uU 0),(.bool false),(iI 0)] [(0,1,(iI 9)),(1,1,v30)] λv31=>
zV h1 v0 v31 10 λBW=>
zp BW v0 10 λuK=>
some ((.cn [uK,(.bool true)]),BW)) (
zB .eql v4 (iI 8) λRN=>
xA RN (
yi [(iI 0),(iI 0),(uU 0),(uU 0),(uU 0),(.bool false),(iI 0),(uU 0),(.bool false),(iI 0)] [] λDa=>
zV h1 v0 Da 10 λh36=>
zp h36 v0 10 λv37=>
some ((.cn [v37,(.bool false)]),h36)) (
yB a0 λE9=>
jJ E9 15 λRO=>
ji h1 RO λv40=>
vV c [(79,30),(111,56),(158,369),(159,377),(160,380),(373,312)] v40 [] h1 λDb h42=>
xC Db 0 λBX=>
xC Db 1 λFa=>
zV h42 v0 BX 10 λpG=>
zp pG v0 10 λv46=>
some ((.cn [v46,Fa]),pG))))))
def W56 : WF :=Au S56
theorem W56_ok : iC Tryz.prog 56 W56 :=U9 (pl :=P56) λ_ _ _=>by kernel_rfl
def P57 : Pl :=(.n none .z (.n none (.n (some [0]) (.n none .z (.n none .z (.n none .z (.n none (.n none .z (.n none (.n none .z (.n none (.n (some [62,61,60,2,0]) .z .z) .z)) .z)) .z)))) .z) .z))
def S57 : aY Tryz.prog P57 57 :=λ_ _ _=>.mk _
def P58 : Pl :=.z
def S58 : aY Tryz.prog P58 58 :=λ_ _ _=>.mk _
def P59 : Pl :=(.n none .z (.n none .z (.n none .z (.n none .z (.n (some []) (.n none .z (.n none .z (.n none .z (.n none (.n none (.r [[0]]) .z) .z)))) .z)))))
def S59 (c : CV) (a0 a1 : AV) (h : AH) : R :=
w5 h 77 a1 λv0 h1=>
yB a0 λv2=>
jJ v2 14 λv3=>
ji h1 v3 λv4=>
zB .eql v4 (iI 8) λv5=>
xA v5 (
some ((.cn []),h1)) (
jJ v0 5 λv6=>
ji h1 v6 λv7=>
zB .neq v7 (iI 0) λv8=>
xA v8 (
jJ v0 5 λv9=>
ji h1 v9 λv10=>
zS c (.fn 86 [] []) [a0,(iI 4),v10,(.int .i64 (.negSucc 0))] h1 λ_ mP=>
yB a0 λog=>
jJ og 14 λuL=>
zV mP uL (iI 8) 1 λrP=>
some ((.cn []),rP)) (
yB a0 λrN=>
jJ rN 14 λrp=>
ji h1 rp λoP=>
yp (α :=Unit→AH→List Nat→R) (λ_ nQ d21=>
xB d21 nQ λsZ=>
some ((.cn []),sZ)) λj22=>
zB .eql oP (iI 0) λv24=>
xA v24 (
yB a0 λpH=>
jJ pH 14 λuI=>
zV h1 uI (iI 1) 1 λBY=>
j22 (()) BY []) (
zB .eql oP (iI 1) λv28=>
xA v28 (
yp (α :=AV×Unit→AH→R) (λs29 h30=>
yB s29.1 λFb=>
jJ Fb 14 λuK=>
zV h30 uK (iI 2) 1 λh34=>
j22 (()) h34 []) λj31=>
jJ v0 0 λDa=>
ji h1 Da λDc=>
jJ v0 0 λv37=>
ji h1 v37 λE9=>
yB a0 λRO=>
jJ RO 19 λv40=>
zV h1 v40 (.bool true) 1 λLb=>
yB a0 λDd=>
jJ Dd 20 λBX=>
zV Lb BX Dc 1 λRP=>
yB a0 λFc=>
jJ Fc 21 λv46=>
zV RP v46 E9 1 λh47=>
Xz v37 none E9 Lb RP h1.nx<|
Xz v37 none E9 h1 Lb h1.nx<|
Xz Da none Dc h1 Lb h1.nx<|
j31 (a0,()) h47) (
zB .eql oP (iI 2) λLc=>
xA Lc (
zS c (.fn 87 [] []) [a0] h1 λ_ h50=>
j22 (()) h50 []) (
zB .eql oP (iI 7) λv51=>
xA v51 (
yB a0 λRQ=>
jJ RQ 14 λv53=>
zV h1 v53 (iI 8) 1 λLd=>
j22 (()) Ld []) (
yB a0 λv55=>
jJ v55 15 λv56=>
ji h1 v56 λRS=>
zp h1 v0 6 λLe=>
vV c [(79,32),(111,59),(158,370),(159,378),(160,381)] RS [Le] h1 λ_ h60=>
zS c (.fn 88 [] []) [a0] h60 λ_ h62=>
j22 (()) h62 []))))))
def W59 : WF :=DX S59
theorem W59_ok : iC Tryz.prog 59 W59 :=Pm (pl :=P59) λ_ _ _ _=>by kernel_rfl
def P60 : Pl :=.z
def S60 : aY Tryz.prog P60 60 :=λ_ _ _=>.mk _
def P61 : Pl :=(.n none .z (.n none (.r [[6,1,0]]) (.n none .z (.n (some []) (.n none .z (.n none (.n none .z (.n none (.n none (.r [[87,6,1,0]]) .z) .z)) (.n none .z (.n none .z (.n none .z (.n none .z (.n none (.r [[6,0]]) (.n none (.r [[0]]) .z)))))))) .z))))
def S61 : dp Tryz.prog P61 61 :=λ_ _ _ _ _=>.mk _
def P62 : Pl :=(.n none .z (.n none (.n none (.r [[12,9,4,2,0],[20,14,4,2,0],[27,20,14,4,2,0],[28,14,4,2,0]]) (.n none (.n none (.r [[]]) .z) .z)) .z))
def S62 : dp Tryz.prog P62 62 :=λ_ _ _ _ _=>.mk _
def P63 : Pl :=.z
def S63 : bW Tryz.prog P63 63 :=λ_ _ _ _=>.mk _
def P64 : Pl :=.z
def S64 : aY Tryz.prog P64 64 :=λ_ _ _=>.mk _
def P65 : Pl :=(.n none .z (.n none (.r [[12,8]]) .z))
def S65 : aY Tryz.prog P65 65 :=λ_ _ _=>.mk _
def P66 : Pl :=.z
def S66 : aY Tryz.prog P66 66 :=λ_ _ _=>.mk _
def P67 : Pl :=.z
def S67 : aY Tryz.prog P67 67 :=λ_ _ _=>.mk _
def P68 : Pl :=.z
def S68 : aY Tryz.prog P68 68 :=λ_ _ _=>.mk _
def P69 : Pl :=(.n none .z (.n none (.r [[13,8,0],[21,15,0],[27,21,15],[28,15]]) .z))
def S69 : aY Tryz.prog P69 69 :=λ_ _ _=>.mk _
def P70 : Pl :=(.n none .z (.n none (.r [[2,1]]) .z))
def S70 : aY Tryz.prog P70 70 :=λ_ _ _=>.mk _
def P71 : Pl :=(.n none .z (.n none .z (.n none .z (.n none .z (.n (some [8,6,5,4,1,0]) .z (.n none (.r [[4]]) .z))))))
def S71 : bW Tryz.prog P71 71 :=λ_ _ _ _=>.mk _
def P72 : Pl :=.z
def S72 : aY Tryz.prog P72 72 :=λ_ _ _=>.mk _
def P73 : Pl :=.z
def S73 : aY Tryz.prog P73 73 :=λ_ _ _=>.mk _
def P74 : Pl :=.z
def S74 : aY Tryz.prog P74 74 :=λ_ _ _=>.mk _
def P75 : Pl :=.z
def S75 : bW Tryz.prog P75 75 :=λ_ _ _ _=>.mk _
def P76 : Pl :=.z
def S76 : bW Tryz.prog P76 76 :=λ_ _ _ _=>.mk _
def P77 : Pl :=.z
def S77 : dp Tryz.prog P77 77 :=λ_ _ _ _ _=>.mk _
def P78 : Pl :=.z
def S78 : bW Tryz.prog P78 78 :=λ_ _ _ _=>.mk _
def P79 : Pl :=.z
def S79 (c : CV) (a0 a1 a2 a3 : AV) (h : AH) : R :=
w5 h 70 a2 λv0 h1=>
w5 h1 70 a3 λv2 h3=>
zp h3 v2 3 λv4=>
zS c (.fn 111 [] []) [a0,a1,v4] h3 λv5 h6=>
zB .neq v5 (iI 0) λv7=>
xA v7 (
some ((.cn [(.bool false),v5]),h6)) (
yB a0 λv8=>
jJ v8 0 λv9=>
ji h6 v9 λv10=>
w4 v10 a1 3 λv11=>
zp h6 v11 3 λv12=>
zp h6 v0 3 λog=>
UW [.nt .int 0,.nt .bool 1,.nt .int 2] true v12 og λuL=>
xA uL (
some ((.cn [(.bool false),(iI 0)]),h6)) (
yB a0 λsY=>
jJ sY 0 λrN=>
ji h6 rN λrp=>
zp h6 v2 3 λoP=>
w4 rp a1 3 λuH=>
zV h6 uH oP 3 λnQ=>
some ((.cn [(.bool true),(iI 0)]),nQ)))
def W79 : WF :=Pn S79
theorem W79_ok : iC Tryz.prog 79 W79 :=jKH (pl :=P79) λ_ _ _ _ _ _=>by kernel_rfl
def P80 : Pl :=(.n none .z (.n none .z (.n (some [7]) .z .z)))
def S80 : dp Tryz.prog P80 80 :=λ_ _ _ _ _=>.mk _
def P81 : Pl :=.z
def S81 : dp Tryz.prog P81 81 :=λ_ _ _ _ _=>.mk _
def P82 : Pl :=.z
def S82 : bW Tryz.prog P82 82 :=λ_ _ _ _=>.mk _
def P83 : Pl :=.z
def S83 : dp Tryz.prog P83 83 :=λ_ _ _ _ _=>.mk _
def P84 : Pl :=.z
def S84 : dp Tryz.prog P84 84 :=λ_ _ _ _ _=>.mk _
def P85 : Pl :=.z
def S85 : dp Tryz.prog P85 85 :=λ_ _ _ _ _=>.mk _
def P86 : Pl :=.z
def S86 : lZ Tryz.prog P86 86 :=λ_ _ _ _ _ _=>.mk _
def P87 : Pl :=(.n none .z (.n none .z (.n (some []) (.n none .z (.n none .z (.n none .z (.n none .z (.n none .z (.n none .z (.n none .z (.n none .z (.n none (.r [[0]]) .z))))))))) .z)))
def S87 : aY Tryz.prog P87 87 :=λ_ _ _=>.mk _
def P88 : Pl :=(.n none (.n none .z (.n (some [0]) .z .z)) .z)
def S88 (c : CV) (a0 : AV) (h : AH) : R :=
yB a0 λv0=>
jJ v0 15 λv1=>
ji h v1 λv2=>
vV c [(111,60),(158,177),(159,182),(160,102),(224,131)] v2 [] h λv3 h4=>
yp (α :=AV×Unit→AH→List Nat→R) (λs5 h6 d7=>
zS c (.fn 69 [] []) [s5.1] h6 λv9 eM=>
xA v9 (
yB s5.1 λv11=>
jJ v11 18 λv12=>
ji eM v12 λog=>
zS c (.fn 123 [] []) [og] eM λuL rP=>
yB s5.1 λrN=>
jJ rN 21 λrp=>
zV rP rp uL 1 λDe=>
xB d7 De λFe=>
some ((.cn []),Fe)) (
xB d7 eM λnQ=>
some ((.cn []),nQ))) λj8=>
zB .eql v3 (iI 0) λv21=>
xA v21 (
j8 (a0,()) h4 []) (
zB .eql v3 (iI 5) λv22=>
xA v22 (
yB a0 λrO=>
jJ rO 15 λv24=>
ji h4 v24 λpH=>
vV c [(111,89),(158,368),(159,376),(160,379),(224,371)] pH [] h4 λuI BY=>
zS c (.fn 86 [] []) [a0,(iI 5),(iI 0),uI] BY λ_ tW=>
j8 (a0,()) tW []) (
zS c (.fn 122 [] []) [a0] h4 λ_ h31=>
j8 (a0,()) h31 []))
def W88 : WF :=Au S88
theorem W88_ok : iC Tryz.prog 88 W88 :=U9 (pl :=P88) λ_ _ _=>by kernel_rfl
def P89 : Pl :=.z
def S89 : aY Tryz.prog P89 89 :=λ_ _ _=>.mk _
def P90 : Pl :=(.n none .z (.n none (.n none .z (.n none (.n (some [11,10,4,1,0]) .z .z) .z)) .z))
def S90 : bW Tryz.prog P90 90 :=λ_ _ _ _=>.mk _
def P91 : Pl :=(.n (some [0]) (.n none .z (.n none (.n none .z (.n none (.n (some [14,13,12,0]) .z .z) .z)) .z)) .z)
def S91 : bW Tryz.prog P91 91 :=λ_ _ _ _=>.mk _
def P92 : Pl :=.z
def S92 : aY Tryz.prog P92 92 :=λ_ _ _=>.mk _
def P93 : Pl :=(.n none .z (.n none (.n none (.r [[11,6,0]]) .z) .z))
def S93 : aY Tryz.prog P93 93 :=λ_ _ _=>.mk _
def P94 : Pl :=.z
def S94 : aY Tryz.prog P94 94 :=λ_ _ _=>.mk _
def P95 : Pl :=(.n none .z (.n none (.n (some [10,9,8,1,0]) .z .z) .z))
def S95 : dp Tryz.prog P95 95 :=λ_ _ _ _ _=>.mk _
def P96 : Pl :=.z
def S96 : aY Tryz.prog P96 96 :=λ_ _ _=>.mk _
def P97 : Pl :=.z
def S97 : aY Tryz.prog P97 97 :=λ_ _ _=>.mk _
def P98 : Pl :=(.n (some [0]) .z .z)
def S98 : aY Tryz.prog P98 98 :=λ_ _ _=>.mk _
def P99 : Pl :=.z
def S99 : aY Tryz.prog P99 99 :=λ_ _ _=>.mk _
def P100 : Pl :=.z
def S100 : aY Tryz.prog P100 100 :=λ_ _ _=>.mk _
def P101 : Pl :=(.n none .z (.n none (.r [[10,7]]) .z))
def S101 : aY Tryz.prog P101 101 :=λ_ _ _=>.mk _
def P102 : Pl :=.z
def S102 : aY Tryz.prog P102 102 :=λ_ _ _=>.mk _
def P103 : Pl :=.z
def S103 : aY Tryz.prog P103 103 :=λ_ _ _=>.mk _
def P104 : Pl :=.z
def S104 : aY Tryz.prog P104 104 :=λ_ _ _=>.mk _
def P105 : Pl :=.z
def S105 : aY Tryz.prog P105 105 :=λ_ _ _=>.mk _
def P106 : Pl :=.z
def S106 : aY Tryz.prog P106 106 :=λ_ _ _=>.mk _
def P107 : Pl :=.z
def S107 : aY Tryz.prog P107 107 :=λ_ _ _=>.mk _
def P108 : Pl :=.z
def S108 : aY Tryz.prog P108 108 :=λ_ _ _=>.mk _
def P109 : Pl :=(.n none .z (.n none (.r [[14,7]]) .z))
def S109 : bW Tryz.prog P109 109 :=λ_ _ _ _=>.mk _
def P110 : Pl :=(.n none .z (.n none (.r [[14,7]]) .z))
def S110 : bW Tryz.prog P110 110 :=λ_ _ _ _=>.mk _
def P111 : Pl :=.z
def S111 : dp Tryz.prog P111 111 :=λ_ _ _ _ _=>.mk _
def P112 : Pl :=(.n none .z (.n none (.r [[14,7]]) .z))
def S112 : bW Tryz.prog P112 112 :=λ_ _ _ _=>.mk _
def P113 : Pl :=(.n none .z (.n none .z (.n none (.r [[4]]) .z)))
def S113 : bW Tryz.prog P113 113 :=λ_ _ _ _=>.mk _
def P114 : Pl :=(.n none .z (.n none .z (.n none .z (.n none (.r [[6]]) .z))))
def S114 : dp Tryz.prog P114 114 :=λ_ _ _ _ _=>.mk _
def P115 : Pl :=(.n none .z (.n none (.n none .z (.n none (.n none (.r [[3,2]]) .z) .z)) (.n none (.n none (.n (some [0]) .z .z) .z) .z)))
def S115 : aY Tryz.prog P115 115 :=λ_ _ _=>.mk _
def P116 : Pl :=(.n none (.r [[0]]) .z)
def S116 : bW Tryz.prog P116 116 :=λ_ _ _ _=>.mk _
def P117 : Pl :=.z
def S117 : aY Tryz.prog P117 117 :=λ_ _ _=>.mk _
def P118 : Pl :=(.n none (.r [[1,0]]) .z)
def S118 : bW Tryz.prog P118 118 :=λ_ _ _ _=>.mk _
def P119 : Pl :=.z
def S119 : aY Tryz.prog P119 119 :=λ_ _ _=>.mk _
def P120 : Pl :=.z
def S120 : IA Tryz.prog P120 120 :=λ_ _ _ _ _ _ _ _ _=>.mk _
def P121 : Pl :=.z
def S121 : dp Tryz.prog P121 121 :=λ_ _ _ _ _=>.mk _
def P122 : Pl :=(.n none .z (.n (some []) (.n none .z (.n none .z (.n none .z (.n none .z (.n none .z (.n none .z (.n none .z (.n none (.r [[]]) .z)))))))) .z))
def S122 : aY Tryz.prog P122 122 :=λ_ _ _=>.mk _
def P123 : Pl :=.z
def S123 : aY Tryz.prog P123 123 :=λ_ _ _=>.mk _
def P124 : Pl :=(.n none .z (.n none (.r [[8,6]]) .z))
def S124 : aY Tryz.prog P124 124 :=λ_ _ _=>.mk _
def P125 : Pl :=.z
def S125 : aY Tryz.prog P125 125 :=λ_ _ _=>.mk _
def P126 : Pl :=(.n none .z (.n none .z (.n none (.n none .z (.n none (.n (some [17,16,15,3]) .z .z) .z)) .z)))
def S126 (c : CV) (a0 : AV) (h : AH) : R :=
yB a0 λv0=>
jJ v0 0 λv1=>
ji h v1 λv2=>
Qb v2 λv3=>
JY h 9 [(.str [])] v3 v3 λv4 h5=>
yB a0 λv6=>
jJ v6 0 λv7=>
ji h5 v7 λv8=>
Qb v8 λv9=>
Gc (σ :=AV×AV×AV×AV×Unit) NN (λi13 iw dO d12=>
zB .lss iw.1 iw.2.1 λuL=>
xA uL (
w4 iw.2.2.1 iw.1 1 λsY=>
ji dO sY λrN=>
zS c (.fn 153 [] []) [rN] dO λrp De=>
w4 iw.2.2.2.1 iw.1 1 λuH=>
zV De uH rp 1 λnQ=>
zB .add iw.1 (iI 1) λv21=>
i13 (v21,iw.2.1,iw.2.2.1,iw.2.2.2.1,()) nQ d12) (
zS c (.fn 154 [] []) [iw.2.2.2.1,(.str [32])] dO λv22 sZ=>
xB d12 sZ λRU=>
some (v22,RU))) ((iI 0),v9,v8,v4,()) h5 []
def W126 : WF :=Au S126
theorem W126_ok : iC Tryz.prog 126 W126 :=U9 (pl :=P126) λ_ _ _=>by kernel_rfl
def P127 : Pl :=.z
def S127 : aY Tryz.prog P127 127 :=λ_ _ _=>.mk _
def P128 : Pl :=.z
def S128 : aY Tryz.prog P128 128 :=λ_ _ _=>.mk _
def P129 : Pl :=(.n none .z (.n none .z (.n none (.n none .z (.n none (.n (some [14,13,12,6,5,1,0]) (.n none .z (.n none .z (.n none (.n (some [14,13,12,6,5,1,0]) .z .z) .z))) .z) .z)) .z)))
def S129 : bW Tryz.prog P129 129 :=λ_ _ _ _=>.mk _
def P130 : Pl :=.z
def S130 : aY Tryz.prog P130 130 :=λ_ _ _=>.mk _
def P131 : Pl :=.z
def S131 : aY Tryz.prog P131 131 :=λ_ _ _=>.mk _
def P132 : Pl :=(.n none .z (.n none .z (.n none (.n none .z (.n none (.n (some [17,16,15,3,0]) .z .z) .z)) .z)))
def S132 : aY Tryz.prog P132 132 :=λ_ _ _=>.mk _
def P133 : Pl :=(.n none .z (.n none (.n none .z (.n none (.n none (.r [[11,8]]) .z) .z)) (.n none (.r [[19,16]]) .z)))
def S133 : aY Tryz.prog P133 133 :=λ_ _ _=>.mk _
def P134 : Pl :=.z
def S134 : bW Tryz.prog P134 134 :=λ_ _ _ _=>.mk _
def P135 : Pl :=.z
def S135 : aY Tryz.prog P135 135 :=λ_ _ _=>.mk _
def P136 : Pl :=(.n none .z (.n none (.n none (.r [[16,12,1]]) .z) (.n none .z (.n none (.n none .z (.n none (.n (some [21,20,19,4,1]) .z .z) .z)) (.n none .z (.n none (.r [[3,2]]) .z))))))
def S136 : aY Tryz.prog P136 136 :=λ_ _ _=>.mk _
def P137 : Pl :=(.n none .z (.n none .z (.n none .z (.n none .z (.n none (.n none .z (.n none (.n (some [27,26,6,5,1]) .z .z) .z)) (.n none (.n none .z (.n none (.n (some [37,36,35,6,5,1]) (.n none .z (.n none .z (.n none (.n (some [37,36,35,6,5,1]) .z .z) .z))) .z) .z)) (.n none (.n none .z (.n none (.n (some [57,56,55,6,5]) (.n none .z (.n none .z (.n none (.n (some [57,56,55,6,5]) .z .z) .z))) .z) .z)) .z)))))))
def S137 : aY Tryz.prog P137 137 :=λ_ _ _=>.mk _
def P138 : Pl :=.z
def S138 : Bq Tryz.prog P138 138 :=λ_ _=>.mk _
def P139 : Pl :=(.n none .z (.n none (.n none (.n (some [0]) (.n none .z (.n (some [0]) (.n none .z (.n none .z (.n none .z (.n none .z (.n (some [0]) .z .z))))) .z)) .z) .z) .z))
def S139 : aY Tryz.prog P139 139 :=λ_ _ _=>.mk _
def P140 : Pl :=.z
def S140 : aY Tryz.prog P140 140 :=λ_ _ _=>.mk _
def P141 : Pl :=(.n none .z (.n none .z (.n (some [7,5,1,0]) (.n none (.r [[19,18,7,5,1,0]]) .z) .z)))
def S141 : bW Tryz.prog P141 141 :=λ_ _ _ _=>.mk _
def P142 : Pl :=.z
def S142 : r4 Tryz.prog P142 142 :=λ_ _ _ _ _ _ _=>.mk _
def P143 : Pl :=.z
def S143 : dp Tryz.prog P143 143 :=λ_ _ _ _ _=>.mk _
def P144 : Pl :=.z
def S144 : dp Tryz.prog P144 144 :=λ_ _ _ _ _=>.mk _
def P145 : Pl :=(.n none .z (.n none .z (.n none (.n none .z (.n none (.n (some [3]) .z .z) .z)) .z)))
def S145 (c : CV) (a0 : AV) (h : AH) : R :=
w5 h 89 .ap λv0 h1=>
yB a0 λv2=>
jJ v2 1 λv3=>
ji h1 v3 λv4=>
zS c (.fn 171 [] []) [v4] h1 λv5 h6=>
X5 c v5 [.yield (h6.new .lT).nx] ((h6.new .lT).new (.loop .ready none 145 [1,1,0,1,0] [3] [v0] h6.nx)) λ_ h7=>
gE h7 (h6.new .lT).nx λp9 h8=>
Yv p9 (
ji h8 v0 λv10=>
xB (h6.nx::[]) h8 λdO=>
some (v10,dO))<|
none
def W145 : WF :=Au S145
theorem W145_ok : iC Tryz.prog 145 W145 :=U9 (pl :=P145) λ_ _ _=>by kernel_rfl
def P146 : Pl :=.z
def S146 : bW Tryz.prog P146 146 :=λ_ _ _ _=>.mk _
def P147 : Pl :=(.n none .z (.n none .z (.n none (.n none .z (.n none (.n (some [13,12,11,7,2,1]) (.n none .z (.n none .z (.n none (.n (some [13,12,11,7,2,1]) .z .z) .z))) .z) .z)) .z)))
def S147 : dp Tryz.prog P147 147 :=λ_ _ _ _ _=>.mk _
def P148 : Pl :=.z
def S148 : aY Tryz.prog P148 148 :=λ_ _ _=>.mk _
def P149 : Pl :=(.n none .z (.n none (.r [[2,0]]) (.n none .z (.n (some []) (.n none .z (.n none (.n none (.r [[0]]) .z) .z)) .z))))
def S149 : aY Tryz.prog P149 149 :=λ_ _ _=>.mk _
def P150 : Pl :=.z
def S150 : aY Tryz.prog P150 150 :=λ_ _ _=>.mk _
def P151 : Pl :=.z
def S151 : aY Tryz.prog P151 151 :=λ_ _ _=>.mk _
def P152 : Pl :=.z
def S152 : aY Tryz.prog P152 152 :=λ_ _ _=>.mk _
def P153 : Pl :=.z
def S153 (c : CV) (a0 : AV) (h : AH) : R :=
yM 22 (uU 0) a0 λv0=>
xC v0 1 λv1=>
xC v0 0 λv2=>
xA v1 (
zS c (.fn 185 [] []) [v2,(iI 10)] h λv3 h4=>
some (v3,h4)) (
yM 4 (.bool false) a0 λv5=>
xC v5 1 λv6=>
xC v5 0 λv7=>
xA v6 (
xA v7 (
some ((.str [121,101,115]),h)) (
some ((.str [110,111]),h))) (
some ((.str [110,111,110,101]),h)))
def W153 : WF :=Au S153
theorem W153_ok : iC Tryz.prog 153 W153 :=U9 (pl :=P153) λ_ _ _=>by kernel_rfl
def P155 : Pl :=(.n none .z (.n none .z (.n none (.n none .z (.n none (.n (some [11,10,9,3]) .z .z) .z)) .z)))
def S155 : aY Tryz.prog P155 155 :=λ_ _ _=>.mk _
def P156 : Pl :=(.n none .z (.n none (.n none .z (.n none (.n (some [9,8,7,1]) (.n none .z (.n none .z (.n none (.n none (.n none .z (.n none (.r [[18,15,9,8,7,1]]) .z)) .z) .z))) .z) .z)) .z))
def S156 : bW Tryz.prog P156 156 :=λ_ _ _ _=>.mk _
def P157 : Pl :=(.n none .z (.n none (.r [[7,5]]) .z))
def S157 : aY Tryz.prog P157 157 :=λ_ _ _=>.mk _
def P158 : Pl :=.z
def S158 : aY Tryz.prog P158 158 :=λ_ _ _=>.mk _
def P159 : Pl :=(.n none .z (.n none (.n none (.n none .z (.n none .z (.n none (.r [[11,5,3,1]]) (.n none .z (.n none (.r [[33,29,5,1]]) (.n none .z (.n none (.r [[42,39]]) .z))))))) .z) .z))
def S159 : dp Tryz.prog P159 159 :=λ_ _ _ _ _=>.mk _
end
end Go.Proofs.YtemjbhdofokbhaaGreatDoor
