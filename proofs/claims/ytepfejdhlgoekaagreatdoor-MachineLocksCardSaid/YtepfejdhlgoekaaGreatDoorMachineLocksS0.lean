/- Printed by a program of mine: the bodies of the program's functions aa terms of the primitives of the abstract executor, each shown equal by the kernel. -/
import Derived.Test.YtepfejdhlgoekaaGreatDoorProg
import Derived.Test.YtepfejdhlgoekaaGreatDoorMachineLocksAe1
import Derived.KernelRfl
namespace Go.Proofs.YtepfejdhlgoekaaGreatDoor
open Go Go.Ae
set_option maxRecDepth 100000
noncomputable section
attribute [local irreducible] zM kQ gp xg qm X8 J5 gG kb Jf Jh gQ jq zY jD jc wQ Ng pEq Yn pUn vM Jb UZ Nc vn x8 gJ xH kX zP w9 QH pMM gF xh zb kP yw zl Gu J7 kM KJ Jp Gi Oe Gs KQ Gp jm yV Jz QR JK xq vV pIs JM Un zO xp Xf AV.undef
set_option maxHeartbeats 40000000
def P3 : Pl :=(.n none .z (.n none .z (.n none .z (.n none .z (.n none .z (.n none (.n none (.r [[29,27,8,7,2]]) .z) (.n none .z (.n none (.n none .z (.n none (.n (some [10,9,8,7,2]) (.n none (.n none (.r [[39,37,10,9,8,7,2]]) .z) (.n none (.n none (.n none .z (.n none (.n (some [11,10,9,8,7,2]) (.n none .z (.n none (.n none (.n none (.r [[11,10,9,8,7,2]]) (.n none .z (.n none (.n none .z (.n none (.n (some [13,12,11,10,9,8,7,2]) (.n none .z (.n none (.n none (.n none (.r [[104,13,12,11,10,9,8,7,2]]) .z) .z) .z)) .z) .z)) (.n none (.n none (.r [[114,109,11,10,8,7,2]]) .z) .z)))) .z) .z)) .z) .z)) .z) .z)) .z) .z)) (.n none (.r [[124,121]]) .z)))))))))
def S3 : tE3 Tryz.prog P3 3 :=λ_ _ _ _ _=>.mk _
def P4 : Pl :=(.n none .z (.n none .z (.n none .z (.n none .z (.n none .z (.n none (.n none .z (.n none (.n (some [4,3]) .z .z) .z)) (.n none .z (.n none (.r [[37,34,6,5,3],[43,39,6,5,3],[49,45,6,3],[54,51,6,3],[59,56,6,3],[66,61,3],[71,68,3],[76,73,3],[81,78,3],[85,83,3],[90,87,3],[96,92,3],[102,98,3],[108,104,3],[114,110,3],[121,116]]) .z))))))))
def S4 : tE0 Tryz.prog P4 4 :=λ_ _=>.mk _
def P5 : Pl :=(.n none .z (.n none .z (.n none .z (.n none .z (.n none (.r [[5,2,1]]) (.n none (.n none .z (.n none (.n (some [32,31,30,5,2,1]) (.n none .z (.n none .z (.n none (.n (some [32,31,30,5,2,1]) .z .z) .z))) .z) .z)) (.n none (.n none .z (.n none (.n (some [51,50,5,2,1]) (.n none .z (.n none .z (.n none (.n none (.n none .z (.n none .z (.n (some [51,50,9,8,5,2,1]) .z (.r [[51,50,5,2,1]])))) .z) .z))) .z) .z)) .z)))))))
def S5 : tE2 Tryz.prog P5 5 :=λ_ _ _ _=>.mk _
def P6 : Pl :=(.n none .z (.n none (.r [[3,2,1]]) (.n none (.r [[3,2]]) .z)))
def S6 : tE1 Tryz.prog P6 6 :=λ_ _ _=>.mk _
def P7 : Pl :=(.n none .z (.n none .z (.n none (.n none .z (.n none (.n (some [8,7,2,1,0]) (.n none (.n none (.r [[17,15,8,7,2,1,0]]) .z) (.n none (.n none (.n none .z (.n none (.n none .z (.n none (.n (some [10,9,8,7,2,1,0]) (.n none (.n none (.r [[30,28,10,9,8,7,2,1,0]]) .z) .z) .z) .z)) .z)) .z) .z)) .z) .z)) .z)))
def S7 : tE3 Tryz.prog P7 7 :=λ_ _ _ _ _=>.mk _
def P8 : Pl :=.z
def S8 : tE1 Tryz.prog P8 8 :=λ_ _ _=>.mk _
def P9 : Pl :=.z
def S9 : tE1 Tryz.prog P9 9 :=λ_ _ _=>.mk _
def P10 : Pl :=(.n none .z (.n none .z (.n (some [1,0]) .z .z)))
def S10 : tE3 Tryz.prog P10 10 :=λ_ _ _ _ _=>.mk _
def P11 : Pl :=(.n none .z (.n none (.n none (.r [[19,12,2,1,0]]) .z) (.n none .z (.n none .z (.n none .z (.n none .z (.n none (.r [[1,0]]) (.n none .z (.n none (.n none .z (.n none (.n (some [80,79,78,1,0]) (.n none .z (.n none .z (.n none (.n (some [80,79,78,1,0]) .z .z) .z))) .z) .z)) .z)))))))))
def S11 : tE3 Tryz.prog P11 11 :=λ_ _ _ _ _=>.mk _
def P12 : Pl :=.z
def S12 : tE1 Tryz.prog P12 12 :=λ_ _ _=>.mk _
def P13 : Pl :=.z
def S13 : tE2 Tryz.prog P13 13 :=λ_ _ _ _=>.mk _
def P14 : Pl :=(.n none .z (.n none (.n none .z (.n none (.n (some [11,10,9]) (.n none .z (.n none .z (.n none (.n none (.n none .z (.n none .z (.n none (.r [[21,19,11,10,9]]) .z))) .z) .z))) .z) .z)) .z))
def S14 : tE1 Tryz.prog P14 14 :=λ_ _ _=>.mk _
def P15 : Pl :=.z
def S15 : tE1 Tryz.prog P15 15 :=λ_ _ _=>.mk _
def P16 : Pl :=.z
def S16 : tE1 Tryz.prog P16 16 :=λ_ _ _=>.mk _
def P17 : Pl :=.z
def S17 : tE2 Tryz.prog P17 17 :=λ_ _ _ _=>.mk _
def P18 : Pl :=(.n none .z (.n none (.n none .z (.n none (.n (some [10,9,8]) .z .z) .z)) .z))
def S18 : tE1 Tryz.prog P18 18 :=λ_ _ _=>.mk _
def P19 : Pl :=(.n none .z (.n none .z (.n none (.n none .z (.n none (.n (some [11,10,9,3]) .z .z) .z)) .z)))
def S19 : tE1 Tryz.prog P19 19 :=λ_ _ _=>.mk _
def P20 : Pl :=.z
def S20 : tE1 Tryz.prog P20 20 :=λ_ _ _=>.mk _
def P21 : Pl :=.z
def S21 : tE2 Tryz.prog P21 21 :=λ_ _ _ _=>.mk _
def P22 : Pl :=.z
def S22 : tE1 Tryz.prog P22 22 :=λ_ _ _=>.mk _
def P23 : Pl :=(.n none .z (.n none (.r [[2]]) .z))
def S23 : tE1 Tryz.prog P23 23 :=λ_ _ _=>.mk _
def P24 : Pl :=(.n none .z (.n none .z (.n none (.r [[2]]) .z)))
def S24 : tE1 Tryz.prog P24 24 :=λ_ _ _=>.mk _
def P25 : Pl :=.z
def S25 : tE1 Tryz.prog P25 25 :=λ_ _ _=>.mk _
def P26 : Pl :=(.n none .z (.n none .z (.n (some [5,4]) .z .z)))
def S26 : tE2 Tryz.prog P26 26 :=λ_ _ _ _=>.mk _
def P27 : Pl :=(.n none .z (.n none .z (.n none (.r [[7,2]]) (.n none (.n none .z (.n none (.n (some [29,28,27,7]) (.n none .z (.n none .z (.n none (.n none (.n none .z (.r [[29,28,27,7]])) .z) .z))) .z) .z)) .z))))
def S27 : tE3 Tryz.prog P27 27 :=λ_ _ _ _ _=>.mk _
def P28 : Pl :=(.n none .z (.n none .z (.n none .z (.n none (.n none .z (.n (some [8,7,6]) (.n (some [9,8,7,6,2,1,0]) (.n none .z (.n none (.n none (.n none .z (.n none .z (.n none .z (.n none .z (.n (some [9,8,7,6,2,1,0]) (.n none (.r [[46,44,12,11,10,9,8,7,6,2,1,0]]) (.n none .z (.n none (.r [[60,58,12,11,10,9,8,7,6,2,1,0],[64,62,12,11,10,9,8,7,6,2,1,0]]) (.n none .z (.n none (.r [[78,76,12,11,10,9,8,7,6,2,1,0],[82,80,12,11,10,9,8,7,6,2,1,0]]) (.n none .z (.n none (.r [[95,93,12,11,10,9,8,7,6,2,1,0],[103,97,12,11,10,9,8,7,6,2,1,0]]) (.n none .z (.n none (.r [[114,112,12,11,10,9,8,7,6,2,1,0],[118,116,12,11,10,9,8,7,6,2,1,0],[122,120,12,10,9,8,7,6,2,1,0]]) (.n none .z (.n none (.r [[140,138,12,10,9,8,7,6,2,1,0]]) (.n none .z (.n none (.r [[158,156,12,10,9,8,7,6,2,1,0]]) (.n none .z (.n none (.r [[176,174,12,10,9,8,7,6,2,1,0]]) (.n none (.r [[9,8,7,6,2,1,0]]) (.n none (.r [[195,193,10,9,8,7,6,2,1,0]]) (.n none (.r [[9,8,7,6,2,1,0]]) .z)))))))))))))))))) .z))))) .z) .z)) .z) .z)) (.n none (.n none (.n (some [8,7,6]) .z .z) .z) (.n (some [7,6]) .z .z))))))
def S28 : tE3 Tryz.prog P28 28 :=λ_ _ _ _ _=>.mk _
def P29 : Pl :=.z
def S29 : tE1 Tryz.prog P29 29 :=λ_ _ _=>.mk _
def P30 : Pl :=.z
def S30 : tE1 Tryz.prog P30 30 :=λ_ _ _=>.mk _
def P31 : Pl :=.z
def S31 : tE1 Tryz.prog P31 31 :=λ_ _ _=>.mk _
def P32 : Pl :=(.n none .z (.n none .z (.n (some []) (.n none .z (.n none (.n none .z (.n none .z (.n (some [3,2,0]) (.n none .z (.n none (.r [[43,41,3,2,0]]) .z)) .z))) (.n none .z (.n none .z (.n none .z (.n none (.n (some [5,0]) .z .z) .z)))))) .z)))
def S32 : tE4 Tryz.prog P32 32 :=λ_ _ _ _ _ _=>.mk _
def P33 : Pl :=(.n none .z (.n none .z (.n none (.n (some [19,18,17,2,1,0]) (.n none .z (.n none .z (.n none (.n none (.n none .z (.n none (.n none (.r [[31,27,19,18,17,2,1,0]]) .z) (.n (some []) (.n none .z (.n none .z (.n none (.r [[50,45,0]]) .z))) .z))) .z) .z))) .z) .z)))
def S33 : tE3 Tryz.prog P33 33 :=λ_ _ _ _ _=>.mk _
def P34 : Pl :=.z
def S34 : tE1 Tryz.prog P34 34 :=λ_ _ _=>.mk _
def P35 : Pl :=(.n none .z (.n none (.n none (.r [[14,7,1,0]]) .z) .z))
def S35 : tE2 Tryz.prog P35 35 :=λ_ _ _ _=>.mk _
def P36 : Pl :=.z
def S36 : tE1 Tryz.prog P36 36 :=λ_ _ _=>.mk _
def P37 : Pl :=.z
def S37 : tE1 Tryz.prog P37 37 :=λ_ _ _=>.mk _
def P38 : Pl :=.z
def S38 : tE1 Tryz.prog P38 38 :=λ_ _ _=>.mk _
def P39 : Pl :=(.n none .z (.n none (.r [[13,8]]) .z))
def S39 : tE1 Tryz.prog P39 39 :=λ_ _ _=>.mk _
def P40 : Pl :=(.n none .z (.n none .z (.n none (.n none .z (.n none (.n (some [13,12,11,3,0]) .z .z) .z)) (.n (some [3]) .z .z))))
def S40 : tE1 Tryz.prog P40 40 :=λ_ _ _=>.mk _
def P41 : Pl :=.z
def S41 : tE1 Tryz.prog P41 41 :=λ_ _ _=>.mk _
def P42 : Pl :=(.n none .z (.n none (.r [[2]]) .z))
def S42 : tE1 Tryz.prog P42 42 :=λ_ _ _=>.mk _
def P43 : Pl :=.z
def S43 : tE1 Tryz.prog P43 43 :=λ_ _ _=>.mk _
def P44 : Pl :=.z
def S44 : tE1 Tryz.prog P44 44 :=λ_ _ _=>.mk _
def P45 : Pl :=.z
def S45 : tE2 Tryz.prog P45 45 :=λ_ _ _ _=>.mk _
def P46 : Pl :=.z
def S46 : tE1 Tryz.prog P46 46 :=λ_ _ _=>.mk _
def P47 : Pl :=.z
def S47 : tE1 Tryz.prog P47 47 :=λ_ _ _=>.mk _
def P48 : Pl :=(.n none .z (.n none .z (.n none (.n none .z (.n (some [5,4]) .z .z)) .z)))
def S48 : tE2 Tryz.prog P48 48 :=λ_ _ _ _=>.mk _
def P49 : Pl :=.z
def S49 : tE0 Tryz.prog P49 49 :=λ_ _=>.mk _
def P50 : Pl :=.z
def S50 : tE1 Tryz.prog P50 50 :=λ_ _ _=>.mk _
def P51 : Pl :=.z
def S51 : tE1 Tryz.prog P51 51 :=λ_ _ _=>.mk _
def P52 : Pl :=(.n none .z (.n none .z (.n none (.n none .z (.n none (.n none .z (.n none (.n none (.r [[5,4]]) .z) .z)) .z)) (.n none (.r [[5,4]]) .z))))
def S52 : tE2 Tryz.prog P52 52 :=λ_ _ _ _=>.mk _
def P53 : Pl :=.z
def S53 : tE1 Tryz.prog P53 53 :=λ_ _ _=>.mk _
def P54 : Pl :=(.n none .z (.n none (.r [[5,4,3,2,1]]) (.n none .z (.n none .z (.n none (.n none .z (.n none (.n (some [23,22,7,6,5,4,3,2,1]) .z (.n none .z (.n none .z (.n none .z (.n none .z (.n none .z (.n none .z (.n none .z (.n (some [54,22,7,6,4,3,2,1]) .z (.n none .z (.n (some [62,22,7,6,4,3,2,1]) .z (.n none .z (.n none .z (.n none .z (.n none .z (.n none .z (.n (some [86,22,7,6,4,3,2]) .z .z))))))))))))))))) .z)) .z)))))
def S54 : tE1 Tryz.prog P54 54 :=λ_ _ _=>.mk _
def P55 : Pl :=.z
def S55 : tE1 Tryz.prog P55 55 :=λ_ _ _=>.mk _
def P56 : Pl :=.z
def S56 (c : CV) (a0 : AV) (h : AH) : R :=
gF h 71 (.agg [(iI 0),(iI 0),(uU 0),(uU 0),(uU 0),(.bool false),(iI 0),(uU 0),(.bool false),(iI 0)]) λv0 h1=>
xg a0 λv2=>
qm v2 14 λv3=>
jq h1 v3 λv4=>
jc .eql v4 (iI 0) λv5=>
zM v5 (
xg a0 λv6=>
qm v6 0 λv7=>
jq h1 v7 λv8=>
xh [(iI 0),(iI 0),(uU 0),(uU 0),(uU 0),(.bool false),(iI 0),(uU 0),(.bool false),(iI 0)] [(0,1,(iI 9)),(1,1,v8),(3,1,(uU 1))] λv9=>
jD h1 v0 v9 10 λh10=>
zY h10 v0 10 λv11=>
some ((.tup [v11,(.bool true)]),h10)) (
jc .eql v4 (iI 1) λv12=>
zM v12 (
xh [(iI 0),(iI 0),(uU 0),(uU 0),(uU 0),(.bool false),(iI 0),(uU 0),(.bool false),(iI 0)] [(0,1,(iI 6))] λv13=>
jD h1 v0 v13 10 λh14=>
zY h14 v0 10 λv15=>
some ((.tup [v15,(.bool true)]),h14)) (
jc .eql v4 (iI 2) λv16=>
zM v16 (
xg a0 λv17=>
qm v17 0 λv18=>
jq h1 v18 λv19=>
xg a0 λv20=>
qm v20 21 λv21=>
jq h1 v21 λv22=>
jc .add v22 (uU 1) λv23=>
xh [(iI 0),(iI 0),(uU 0),(uU 0),(uU 0),(.bool false),(iI 0),(uU 0),(.bool false),(iI 0)] [(0,1,(iI 9)),(1,1,v19),(3,1,v23)] λv24=>
jD h1 v0 v24 10 λh25=>
zY h25 v0 10 λv26=>
some ((.tup [v26,(.bool true)]),h25)) (
jc .eql v4 (iI 7) λv27=>
zM v27 (
xg a0 λv28=>
qm v28 0 λv29=>
jq h1 v29 λv30=>
xh [(iI 0),(iI 0),(uU 0),(uU 0),(uU 0),(.bool false),(iI 0),(uU 0),(.bool false),(iI 0)] [(0,1,(iI 9)),(1,1,v30)] λv31=>
jD h1 v0 v31 10 λh32=>
zY h32 v0 10 λv33=>
some ((.tup [v33,(.bool true)]),h32)) (
jc .eql v4 (iI 8) λv34=>
zM v34 (
xh [(iI 0),(iI 0),(uU 0),(uU 0),(uU 0),(.bool false),(iI 0),(uU 0),(.bool false),(iI 0)] [] λv35=>
jD h1 v0 v35 10 λh36=>
zY h36 v0 10 λv37=>
some ((.tup [v37,(.bool false)]),h36)) (
xg a0 λv38=>
qm v38 15 λv39=>
jq h1 v39 λv40=>
yV c [(78,30),(106,56),(157,368),(158,376),(159,379),(372,311)] v40 [] h1 λv41 h42=>
zP v41 0 λv43=>
zP v41 1 λv44=>
jD h42 v0 v43 10 λh45=>
zY h45 v0 10 λv46=>
some ((.tup [v46,v44]),h45))))))
def W56 : WF :=w_1 S56
theorem W56_ok : WOk Tryz.prog 56 W56 :=GU (pl :=P56) λ_ _ _=>by kernel_rfl
def P57 : Pl :=(.n none .z (.n none (.n (some [0]) (.n none .z (.n none .z (.n none .z (.n none (.n none .z (.n none (.n none .z (.n none (.n (some [62,61,60,2,0]) .z .z) .z)) .z)) .z)))) .z) .z))
def S57 : tE1 Tryz.prog P57 57 :=λ_ _ _=>.mk _
def P58 : Pl :=.z
def S58 : tE1 Tryz.prog P58 58 :=λ_ _ _=>.mk _
def P59 : Pl :=(.n none .z (.n none .z (.n none .z (.n none .z (.n (some []) (.n none .z (.n none .z (.n none .z (.n none (.n none (.r [[0]]) .z) .z)))) .z)))))
def S59 (c : CV) (a0 a1 : AV) (h : AH) : R :=
gF h 76 a1 λv0 h1=>
xg a0 λv2=>
qm v2 14 λv3=>
jq h1 v3 λv4=>
jc .eql v4 (iI 8) λv5=>
zM v5 (
some ((.tup []),h1)) (
qm v0 5 λv6=>
jq h1 v6 λv7=>
jc .neq v7 (iI 0) λv8=>
zM v8 (
qm v0 5 λv9=>
jq h1 v9 λv10=>
jm c (.fn 85 [] []) [a0,(iI 4),v10,(.int .i64 (.negSucc 0))] h1 λ_ h12=>
xg a0 λv13=>
qm v13 14 λv14=>
jD h12 v14 (iI 8) 1 λh15=>
some ((.tup []),h15)) (
xg a0 λv16=>
qm v16 14 λv17=>
jq h1 v17 λv18=>
xp (α :=Unit→AH→List Nat→R) (λ_ h20 d21=>
zO d21 h20 λh23=>
some ((.tup []),h23)) λj22=>
jc .eql v18 (iI 0) λv24=>
zM v24 (
xg a0 λv25=>
qm v25 14 λv26=>
jD h1 v26 (iI 1) 1 λh27=>
j22 (()) h27 []) (
jc .eql v18 (iI 1) λv28=>
zM v28 (
xp (α :=AV×Unit→AH→R) (λs29 h30=>
xg s29.1 λv32=>
qm v32 14 λv33=>
jD h30 v33 (iI 2) 1 λh34=>
j22 (()) h34 []) λj31=>
qm v0 0 λv35=>
jq h1 v35 λv36=>
qm v0 0 λv37=>
jq h1 v37 λv38=>
xg a0 λv39=>
qm v39 19 λv40=>
jD h1 v40 (.bool true) 1 λh41=>
xg a0 λv42=>
qm v42 20 λv43=>
jD h41 v43 v36 1 λh44=>
xg a0 λv45=>
qm v45 21 λv46=>
jD h44 v46 v38 1 λh47=>
QR v37 none v38 h41 h44 h1.nx<|
QR v37 none v38 h1 h41 h1.nx<|
QR v35 none v36 h1 h41 h1.nx<|
j31 (a0,()) h47) (
jc .eql v18 (iI 2) λv48=>
zM v48 (
jm c (.fn 86 [] []) [a0] h1 λ_ h50=>
j22 (()) h50 []) (
jc .eql v18 (iI 7) λv51=>
zM v51 (
xg a0 λv52=>
qm v52 14 λv53=>
jD h1 v53 (iI 8) 1 λh54=>
j22 (()) h54 []) (
xg a0 λv55=>
qm v55 15 λv56=>
jq h1 v56 λv57=>
zY h1 v0 6 λv58=>
yV c [(78,32),(106,59),(157,369),(158,377),(159,380)] v57 [v58] h1 λ_ h60=>
jm c (.fn 87 [] []) [a0] h60 λ_ h62=>
j22 (()) h62 []))))))
def W59 : WF :=w_2 S59
theorem W59_ok : WOk Tryz.prog 59 W59 :=qJh (pl :=P59) λ_ _ _ _=>by kernel_rfl
def P60 : Pl :=.z
def S60 : tE1 Tryz.prog P60 60 :=λ_ _ _=>.mk _
def P61 : Pl :=(.n none .z (.n none (.r [[6,1,0]]) (.n none .z (.n (some []) (.n none .z (.n none (.n none .z (.n none (.n none (.r [[87,6,1,0]]) .z) .z)) (.n none .z (.n none .z (.n none .z (.n none .z (.n none (.r [[6,0]]) (.n none (.r [[0]]) .z)))))))) .z))))
def S61 : tE3 Tryz.prog P61 61 :=λ_ _ _ _ _=>.mk _
def P62 : Pl :=(.n none .z (.n none (.n none (.r [[12,9,4,2,0],[20,14,4,2,0],[27,20,14,4,2,0],[28,14,4,2,0]]) (.n none (.n none (.r [[]]) .z) .z)) .z))
def S62 : tE3 Tryz.prog P62 62 :=λ_ _ _ _ _=>.mk _
def P63 : Pl :=.z
def S63 : tE2 Tryz.prog P63 63 :=λ_ _ _ _=>.mk _
def P64 : Pl :=.z
def S64 : tE1 Tryz.prog P64 64 :=λ_ _ _=>.mk _
def P65 : Pl :=(.n none .z (.n none (.r [[12,8]]) .z))
def S65 : tE1 Tryz.prog P65 65 :=λ_ _ _=>.mk _
def P66 : Pl :=.z
def S66 : tE1 Tryz.prog P66 66 :=λ_ _ _=>.mk _
def P67 : Pl :=.z
def S67 : tE1 Tryz.prog P67 67 :=λ_ _ _=>.mk _
def P68 : Pl :=.z
def S68 : tE1 Tryz.prog P68 68 :=λ_ _ _=>.mk _
def P69 : Pl :=(.n none .z (.n none (.r [[13,8,0],[21,15,0],[27,21,15],[28,15]]) .z))
def S69 : tE1 Tryz.prog P69 69 :=λ_ _ _=>.mk _
def P70 : Pl :=(.n none .z (.n none (.r [[2,1]]) .z))
def S70 : tE1 Tryz.prog P70 70 :=λ_ _ _=>.mk _
def P71 : Pl :=(.n none .z (.n none .z (.n none .z (.n none .z (.n (some [8,6,5,4,1,0]) .z (.n none (.r [[4]]) .z))))))
def S71 : tE2 Tryz.prog P71 71 :=λ_ _ _ _=>.mk _
def P72 : Pl :=.z
def S72 : tE1 Tryz.prog P72 72 :=λ_ _ _=>.mk _
def P73 : Pl :=.z
def S73 : tE1 Tryz.prog P73 73 :=λ_ _ _=>.mk _
def P74 : Pl :=.z
def S74 : tE2 Tryz.prog P74 74 :=λ_ _ _ _=>.mk _
def P75 : Pl :=.z
def S75 : tE2 Tryz.prog P75 75 :=λ_ _ _ _=>.mk _
def P76 : Pl :=.z
def S76 : tE3 Tryz.prog P76 76 :=λ_ _ _ _ _=>.mk _
def P77 : Pl :=.z
def S77 : tE2 Tryz.prog P77 77 :=λ_ _ _ _=>.mk _
def P78 : Pl :=.z
def S78 (c : CV) (a0 a1 a2 a3 : AV) (h : AH) : R :=
gF h 47 a2 λv0 h1=>
gF h1 47 a3 λv2 h3=>
zY h3 v2 3 λv4=>
jm c (.fn 110 [] []) [a0,a1,v4] h3 λv5 h6=>
jc .neq v5 (iI 0) λv7=>
zM v7 (
some ((.tup [(.bool false),v5]),h6)) (
xg a0 λv8=>
qm v8 0 λv9=>
jq h6 v9 λv10=>
gG v10 a1 3 λv11=>
zY h6 v11 3 λv12=>
zY h6 v0 3 λv13=>
Yn [.bas .int 0,.bas .bool 1,.bas .int 2] true v12 v13 λv14=>
zM v14 (
some ((.tup [(.bool false),(iI 0)]),h6)) (
xg a0 λv15=>
qm v15 0 λv16=>
jq h6 v16 λv17=>
zY h6 v2 3 λv18=>
gG v17 a1 3 λv19=>
jD h6 v19 v18 3 λh20=>
some ((.tup [(.bool true),(iI 0)]),h20)))
def W78 : WF :=w_4 S78
theorem W78_ok : WOk Tryz.prog 78 W78 :=qv9 (pl :=P78) λ_ _ _ _ _ _=>by kernel_rfl
def P79 : Pl :=(.n none .z (.n none .z (.n (some [7]) .z .z)))
def S79 : tE3 Tryz.prog P79 79 :=λ_ _ _ _ _=>.mk _
def P80 : Pl :=.z
def S80 : tE3 Tryz.prog P80 80 :=λ_ _ _ _ _=>.mk _
def P81 : Pl :=.z
def S81 : tE2 Tryz.prog P81 81 :=λ_ _ _ _=>.mk _
def P82 : Pl :=.z
def S82 : tE3 Tryz.prog P82 82 :=λ_ _ _ _ _=>.mk _
def P83 : Pl :=.z
def S83 : tE3 Tryz.prog P83 83 :=λ_ _ _ _ _=>.mk _
def P84 : Pl :=.z
def S84 : tE3 Tryz.prog P84 84 :=λ_ _ _ _ _=>.mk _
def P85 : Pl :=.z
def S85 : tE4 Tryz.prog P85 85 :=λ_ _ _ _ _ _=>.mk _
def P86 : Pl :=(.n none .z (.n none .z (.n (some []) (.n none .z (.n none .z (.n none .z (.n none .z (.n none .z (.n none .z (.n none .z (.n none .z (.n none (.r [[0]]) .z))))))))) .z)))
def S86 : tE1 Tryz.prog P86 86 :=λ_ _ _=>.mk _
def P87 : Pl :=(.n none (.n none .z (.n (some [0]) .z .z)) .z)
def S87 (c : CV) (a0 : AV) (h : AH) : R :=
xg a0 λv0=>
qm v0 15 λv1=>
jq h v1 λv2=>
yV c [(106,60),(157,176),(158,181),(159,102),(223,130)] v2 [] h λv3 h4=>
xp (α :=AV×Unit→AH→List Nat→R) (λs5 h6 d7=>
jm c (.fn 69 [] []) [s5.1] h6 λv9 h10=>
zM v9 (
xg s5.1 λv11=>
qm v11 18 λv12=>
jq h10 v12 λv13=>
jm c (.fn 122 [] []) [v13] h10 λv14 h15=>
xg s5.1 λv16=>
qm v16 21 λv17=>
jD h15 v17 v14 1 λh18=>
zO d7 h18 λh19=>
some ((.tup []),h19)) (
zO d7 h10 λh20=>
some ((.tup []),h20))) λj8=>
jc .eql v3 (iI 0) λv21=>
zM v21 (
j8 (a0,()) h4 []) (
jc .eql v3 (iI 5) λv22=>
zM v22 (
xg a0 λv23=>
qm v23 15 λv24=>
jq h4 v24 λv25=>
yV c [(106,88),(157,367),(158,375),(159,378),(223,370)] v25 [] h4 λv26 h27=>
jm c (.fn 85 [] []) [a0,(iI 5),(iI 0),v26] h27 λ_ h29=>
j8 (a0,()) h29 []) (
jm c (.fn 121 [] []) [a0] h4 λ_ h31=>
j8 (a0,()) h31 []))
def W87 : WF :=w_1 S87
theorem W87_ok : WOk Tryz.prog 87 W87 :=GU (pl :=P87) λ_ _ _=>by kernel_rfl
def P88 : Pl :=.z
def S88 : tE1 Tryz.prog P88 88 :=λ_ _ _=>.mk _
def P89 : Pl :=(.n none .z (.n none (.n none .z (.n none (.n (some [11,10,4,1,0]) .z .z) .z)) .z))
def S89 : tE2 Tryz.prog P89 89 :=λ_ _ _ _=>.mk _
def P90 : Pl :=(.n (some [0]) (.n none .z (.n none (.n none .z (.n none (.n (some [14,13,12,0]) .z .z) .z)) .z)) .z)
def S90 : tE2 Tryz.prog P90 90 :=λ_ _ _ _=>.mk _
def P91 : Pl :=.z
def S91 : tE1 Tryz.prog P91 91 :=λ_ _ _=>.mk _
def P92 : Pl :=(.n none .z (.n none (.n none (.r [[11,6,0]]) .z) .z))
def S92 : tE1 Tryz.prog P92 92 :=λ_ _ _=>.mk _
def P93 : Pl :=.z
def S93 : tE1 Tryz.prog P93 93 :=λ_ _ _=>.mk _
def P94 : Pl :=(.n none .z (.n none (.n (some [10,9,8,1,0]) .z .z) .z))
def S94 : tE3 Tryz.prog P94 94 :=λ_ _ _ _ _=>.mk _
def P95 : Pl :=.z
def S95 : tE1 Tryz.prog P95 95 :=λ_ _ _=>.mk _
def P96 : Pl :=.z
def S96 : tE1 Tryz.prog P96 96 :=λ_ _ _=>.mk _
def P97 : Pl :=(.n (some [0]) .z .z)
def S97 : tE1 Tryz.prog P97 97 :=λ_ _ _=>.mk _
def P98 : Pl :=.z
def S98 : tE1 Tryz.prog P98 98 :=λ_ _ _=>.mk _
def P99 : Pl :=.z
def S99 : tE1 Tryz.prog P99 99 :=λ_ _ _=>.mk _
def P100 : Pl :=.z
def S100 : tE1 Tryz.prog P100 100 :=λ_ _ _=>.mk _
def P101 : Pl :=(.n none .z (.n none (.r [[10,7]]) .z))
def S101 : tE1 Tryz.prog P101 101 :=λ_ _ _=>.mk _
def P102 : Pl :=.z
def S102 : tE1 Tryz.prog P102 102 :=λ_ _ _=>.mk _
def P103 : Pl :=.z
def S103 : tE1 Tryz.prog P103 103 :=λ_ _ _=>.mk _
def P104 : Pl :=.z
def S104 : tE1 Tryz.prog P104 104 :=λ_ _ _=>.mk _
def P105 : Pl :=.z
def S105 : tE1 Tryz.prog P105 105 :=λ_ _ _=>.mk _
def P106 : Pl :=.z
def S106 : tE1 Tryz.prog P106 106 :=λ_ _ _=>.mk _
def P107 : Pl :=.z
def S107 : tE1 Tryz.prog P107 107 :=λ_ _ _=>.mk _
def P108 : Pl :=(.n none .z (.n none (.r [[14,7]]) .z))
def S108 : tE2 Tryz.prog P108 108 :=λ_ _ _ _=>.mk _
def P109 : Pl :=(.n none .z (.n none (.r [[14,7]]) .z))
def S109 : tE2 Tryz.prog P109 109 :=λ_ _ _ _=>.mk _
def P110 : Pl :=.z
def S110 : tE3 Tryz.prog P110 110 :=λ_ _ _ _ _=>.mk _
def P111 : Pl :=(.n none .z (.n none (.r [[14,7]]) .z))
def S111 : tE2 Tryz.prog P111 111 :=λ_ _ _ _=>.mk _
def P112 : Pl :=(.n none .z (.n none .z (.n none (.r [[4]]) .z)))
def S112 : tE2 Tryz.prog P112 112 :=λ_ _ _ _=>.mk _
def P113 : Pl :=(.n none .z (.n none .z (.n none .z (.n none (.r [[6]]) .z))))
def S113 : tE3 Tryz.prog P113 113 :=λ_ _ _ _ _=>.mk _
def P114 : Pl :=(.n none .z (.n none (.n none .z (.n none (.n none (.r [[3,2]]) .z) .z)) (.n none (.n none (.n (some [0]) .z .z) .z) .z)))
def S114 : tE1 Tryz.prog P114 114 :=λ_ _ _=>.mk _
def P115 : Pl :=(.n none (.r [[0]]) .z)
def S115 : tE2 Tryz.prog P115 115 :=λ_ _ _ _=>.mk _
def P116 : Pl :=.z
def S116 : tE1 Tryz.prog P116 116 :=λ_ _ _=>.mk _
def P117 : Pl :=(.n none (.r [[1,0]]) .z)
def S117 : tE2 Tryz.prog P117 117 :=λ_ _ _ _=>.mk _
def P118 : Pl :=.z
def S118 : tE1 Tryz.prog P118 118 :=λ_ _ _=>.mk _
def P119 : Pl :=.z
def S119 : tE7 Tryz.prog P119 119 :=λ_ _ _ _ _ _ _ _ _=>.mk _
def P120 : Pl :=.z
def S120 : tE3 Tryz.prog P120 120 :=λ_ _ _ _ _=>.mk _
def P121 : Pl :=(.n none .z (.n (some []) (.n none .z (.n none .z (.n none .z (.n none .z (.n none .z (.n none .z (.n none .z (.n none (.r [[]]) .z)))))))) .z))
def S121 : tE1 Tryz.prog P121 121 :=λ_ _ _=>.mk _
def P122 : Pl :=.z
def S122 : tE1 Tryz.prog P122 122 :=λ_ _ _=>.mk _
def P123 : Pl :=(.n none .z (.n none (.r [[8,6]]) .z))
def S123 : tE1 Tryz.prog P123 123 :=λ_ _ _=>.mk _
def P124 : Pl :=.z
def S124 : tE1 Tryz.prog P124 124 :=λ_ _ _=>.mk _
def P125 : Pl :=(.n none .z (.n none .z (.n none (.n none .z (.n none (.n (some [17,16,15,3]) .z .z) .z)) .z)))
def S125 (c : CV) (a0 : AV) (h : AH) : R :=
xg a0 λv0=>
qm v0 0 λv1=>
jq h v1 λv2=>
w9 v2 λv3=>
kP h 9 [(.str [])] v3 v3 λv4 h5=>
xg a0 λv6=>
qm v6 0 λv7=>
jq h5 v7 λv8=>
w9 v8 λv9=>
Xf (σ :=AV×AV×AV×AV×Unit) NN (λi13 s10 h11 d12=>
jc .lss s10.1 s10.2.1 λv14=>
zM v14 (
gG s10.2.2.1 s10.1 1 λv15=>
jq h11 v15 λv16=>
jm c (.fn 152 [] []) [v16] h11 λv17 h18=>
gG s10.2.2.2.1 s10.1 1 λv19=>
jD h18 v19 v17 1 λh20=>
jc .add s10.1 (iI 1) λv21=>
i13 (v21,s10.2.1,s10.2.2.1,s10.2.2.2.1,()) h20 d12) (
jm c (.fn 153 [] []) [s10.2.2.2.1,(.str [32])] h11 λv22 h23=>
zO d12 h23 λh24=>
some (v22,h24))) ((iI 0),v9,v8,v4,()) h5 []
def W125 : WF :=w_1 S125
theorem W125_ok : WOk Tryz.prog 125 W125 :=GU (pl :=P125) λ_ _ _=>by kernel_rfl
def P126 : Pl :=.z
def S126 : tE1 Tryz.prog P126 126 :=λ_ _ _=>.mk _
def P127 : Pl :=.z
def S127 : tE1 Tryz.prog P127 127 :=λ_ _ _=>.mk _
def P128 : Pl :=(.n none .z (.n none .z (.n none (.n none .z (.n none (.n (some [14,13,12,6,5,1,0]) (.n none .z (.n none .z (.n none (.n (some [14,13,12,6,5,1,0]) .z .z) .z))) .z) .z)) .z)))
def S128 : tE2 Tryz.prog P128 128 :=λ_ _ _ _=>.mk _
def P129 : Pl :=.z
def S129 : tE1 Tryz.prog P129 129 :=λ_ _ _=>.mk _
def P130 : Pl :=.z
def S130 : tE1 Tryz.prog P130 130 :=λ_ _ _=>.mk _
def P131 : Pl :=(.n none .z (.n none .z (.n none (.n none .z (.n none (.n (some [17,16,15,3,0]) .z .z) .z)) .z)))
def S131 : tE1 Tryz.prog P131 131 :=λ_ _ _=>.mk _
def P132 : Pl :=(.n none .z (.n none (.n none .z (.n none (.n none (.r [[11,8]]) .z) .z)) (.n none (.r [[19,16]]) .z)))
def S132 : tE1 Tryz.prog P132 132 :=λ_ _ _=>.mk _
def P133 : Pl :=.z
def S133 : tE2 Tryz.prog P133 133 :=λ_ _ _ _=>.mk _
def P134 : Pl :=.z
def S134 : tE1 Tryz.prog P134 134 :=λ_ _ _=>.mk _
def P135 : Pl :=(.n none .z (.n none (.n none (.r [[16,12,1]]) .z) (.n none .z (.n none (.n none .z (.n none (.n (some [21,20,19,4,1]) .z .z) .z)) (.n none .z (.n none (.r [[3,2]]) .z))))))
def S135 : tE1 Tryz.prog P135 135 :=λ_ _ _=>.mk _
def P136 : Pl :=(.n none .z (.n none .z (.n none .z (.n none .z (.n none (.n none .z (.n none (.n (some [27,26,6,5,1]) .z .z) .z)) (.n none (.n none .z (.n none (.n (some [37,36,35,6,5,1]) (.n none .z (.n none .z (.n none (.n (some [37,36,35,6,5,1]) .z .z) .z))) .z) .z)) (.n none (.n none .z (.n none (.n (some [57,56,55,6,5]) (.n none .z (.n none .z (.n none (.n (some [57,56,55,6,5]) .z .z) .z))) .z) .z)) .z)))))))
def S136 : tE1 Tryz.prog P136 136 :=λ_ _ _=>.mk _
def P137 : Pl :=.z
def S137 : tE0 Tryz.prog P137 137 :=λ_ _=>.mk _
def P138 : Pl :=(.n none .z (.n none (.n none (.n (some [0]) (.n none .z (.n (some [0]) (.n none .z (.n none .z (.n none .z (.n none .z (.n (some [0]) .z .z))))) .z)) .z) .z) .z))
def S138 : tE1 Tryz.prog P138 138 :=λ_ _ _=>.mk _
def P139 : Pl :=.z
def S139 : tE1 Tryz.prog P139 139 :=λ_ _ _=>.mk _
def P140 : Pl :=(.n none .z (.n none .z (.n (some [7,5,1,0]) (.n none (.r [[19,18,7,5,1,0]]) .z) .z)))
def S140 : tE2 Tryz.prog P140 140 :=λ_ _ _ _=>.mk _
def P141 : Pl :=.z
def S141 : tE5 Tryz.prog P141 141 :=λ_ _ _ _ _ _ _=>.mk _
def P142 : Pl :=.z
def S142 : tE3 Tryz.prog P142 142 :=λ_ _ _ _ _=>.mk _
def P143 : Pl :=.z
def S143 : tE3 Tryz.prog P143 143 :=λ_ _ _ _ _=>.mk _
def P144 : Pl :=(.n none .z (.n none .z (.n none (.n none .z (.n none (.n (some [3]) .z .z) .z)) .z)))
def S144 (c : CV) (a0 : AV) (h : AH) : R :=
gF h 127 .nils λv0 h1=>
xg a0 λv2=>
qm v2 1 λv3=>
jq h1 v3 λv4=>
jm c (.fn 170 [] []) [v4] h1 λv5 h6=>
Jz c v5 [.yield (h6.new .dfd).nx] ((h6.new .dfd).new (.loop .ready none 144 [1,1,0,1,0] [3] [v0] h6.nx)) λ_ h7=>
vV h7 (h6.new .dfd).nx λp9 h8=>
JM p9 (
jq h8 v0 λv10=>
zO (h6.nx::[]) h8 λh11=>
some (v10,h11))<|
none
def W144 : WF :=w_1 S144
theorem W144_ok : WOk Tryz.prog 144 W144 :=GU (pl :=P144) λ_ _ _=>by kernel_rfl
def P145 : Pl :=.z
def S145 : tE2 Tryz.prog P145 145 :=λ_ _ _ _=>.mk _
def P146 : Pl :=(.n none .z (.n none .z (.n none (.n none .z (.n none (.n (some [13,12,11,7,2,1]) (.n none .z (.n none .z (.n none (.n (some [13,12,11,7,2,1]) .z .z) .z))) .z) .z)) .z)))
def S146 : tE3 Tryz.prog P146 146 :=λ_ _ _ _ _=>.mk _
def P147 : Pl :=.z
def S147 : tE1 Tryz.prog P147 147 :=λ_ _ _=>.mk _
def P148 : Pl :=(.n none .z (.n none (.r [[2,0]]) (.n none .z (.n (some []) (.n none .z (.n none (.n none (.r [[0]]) .z) .z)) .z))))
def S148 : tE1 Tryz.prog P148 148 :=λ_ _ _=>.mk _
def P149 : Pl :=.z
def S149 : tE1 Tryz.prog P149 149 :=λ_ _ _=>.mk _
def P150 : Pl :=.z
def S150 : tE1 Tryz.prog P150 150 :=λ_ _ _=>.mk _
def P151 : Pl :=.z
def S151 : tE1 Tryz.prog P151 151 :=λ_ _ _=>.mk _
def P152 : Pl :=.z
def S152 (c : CV) (a0 : AV) (h : AH) : R :=
xH 22 (uU 0) a0 λv0=>
zP v0 1 λv1=>
zP v0 0 λv2=>
zM v1 (
jm c (.fn 184 [] []) [v2,(iI 10)] h λv3 h4=>
some (v3,h4)) (
xH 4 (.bool false) a0 λv5=>
zP v5 1 λv6=>
zP v5 0 λv7=>
zM v6 (
zM v7 (
some ((.str [121,101,115]),h)) (
some ((.str [110,111]),h))) (
some ((.str [110,111,110,101]),h)))
def W152 : WF :=w_1 S152
theorem W152_ok : WOk Tryz.prog 152 W152 :=GU (pl :=P152) λ_ _ _=>by kernel_rfl
def P154 : Pl :=(.n none .z (.n none .z (.n none (.n none .z (.n none (.n (some [11,10,9,3]) .z .z) .z)) .z)))
def S154 : tE1 Tryz.prog P154 154 :=λ_ _ _=>.mk _
def P155 : Pl :=(.n none .z (.n none (.n none .z (.n none (.n (some [9,8,7,1]) (.n none .z (.n none .z (.n none (.n none (.n none .z (.n none (.r [[18,15,9,8,7,1]]) .z)) .z) .z))) .z) .z)) .z))
def S155 : tE2 Tryz.prog P155 155 :=λ_ _ _ _=>.mk _
def P156 : Pl :=(.n none .z (.n none (.r [[7,5]]) .z))
def S156 : tE1 Tryz.prog P156 156 :=λ_ _ _=>.mk _
def P157 : Pl :=.z
def S157 : tE1 Tryz.prog P157 157 :=λ_ _ _=>.mk _
def P158 : Pl :=(.n none .z (.n none (.n none (.n none .z (.n none .z (.n none (.r [[11,5,3,1]]) (.n none .z (.n none (.r [[33,29,5,1]]) (.n none .z (.n none (.r [[42,39]]) .z))))))) .z) .z))
def S158 : tE3 Tryz.prog P158 158 :=λ_ _ _ _ _=>.mk _
def P159 : Pl :=(.n none .z (.n (some [2,1,0]) .z (.n (some [0]) (.n none (.r [[19,17,1,0]]) .z) .z)))
def S159 : tE3 Tryz.prog P159 159 :=λ_ _ _ _ _=>.mk _
def P160 : Pl :=.z
def S160 : tE1 Tryz.prog P160 160 :=λ_ _ _=>.mk _
end
end Go.Proofs.YtepfejdhlgoekaaGreatDoor
