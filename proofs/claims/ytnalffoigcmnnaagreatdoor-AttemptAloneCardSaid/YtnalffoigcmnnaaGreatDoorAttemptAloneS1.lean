/- Printed by a program of mine: the bodies of the program's functions aa terms of the primitives of the abstract executor, each shown equal by the kernel. -/
import Derived.Test.YtnalffoigcmnnaaGreatDoorProg
import Derived.Test.YtnalffoigcmnnaaGreatDoorAttemptAloneAe1
import Derived.KernelRfl
namespace Go.Proofs.YtnalffoigcmnnaaGreatDoor
open Go Go.Ae
set_option maxRecDepth 100000
noncomputable section
attribute [local irreducible] zQ x9 yJ xv qh XD JK yB wb JB Jk vV jK je jj jv gY UV pEq J6 pUn yl JA G7 V2 vY zd vG xz wM jb y7 kH pMM y8 zx zW w7 xo zU XW Q4 kJ Gv Qn Gj OG Gy Y8 Y9 jw xm Qz QC QM z6 yO pIs Jv Ko zw zN QR AV.undef
set_option maxHeartbeats 40000000
def P19 : Pl :=(.n none .z (.n none .z (.n none (.n none .z (.n none (.n (some [5,1,0]) .z .z) .z)) .z)))
def S19 (_ : CV) (a0 a1 : AV) (h : AH) : R :=
y7 a0 λv0=>
y7 a1 λv1=>
jv .neq v0 v1 λv2=>
zQ v2 (
some ((.bool false),h)) (
QR (σ :=AV×AV×AV×Unit) NN (λi6 s3 h4 d5=>
y7 s3.2.2.1 λv7=>
jv .lss s3.1 v7 λv8=>
zQ v8 (
yB s3.2.2.1 s3.1 2 λv9=>
je h4 v9 2 λv10=>
yB s3.2.1 s3.1 2 λv11=>
je h4 v11 2 λv12=>
J6 [.bas .int 0,.bas .int 1] true v10 v12 λv13=>
zQ v13 (
zw d5 h4 λh14=>
some ((.bool false),h14)) (
jv .add s3.1 (iI 1) λv15=>
i6 (v15,s3.2.1,s3.2.2.1,()) h4 d5)) (
zw d5 h4 λh16=>
some ((.bool true),h16))) ((iI 0),a1,a0,()) h [])
def W19 : WF :=w_2 S19
theorem W19_ok : WOk Tryz.prog 19 W19 :=MY (pl :=P19) λ_ _ _ _=>by kernel_rfl
def P20 : Pl :=.z
def S20 : tE1 Tryz.prog P20 20 :=λ_ _ _=>.mk _
def P21 : Pl :=(.n none .z (.n none .z (.n none (.n none .z (.n none (.n (some [5,1,0]) .z .z) .z)) .z)))
def S21 : tE2 Tryz.prog P21 21 :=λ_ _ _ _=>.mk _
def P22 : Pl :=.z
def S22 : tE1 Tryz.prog P22 22 :=λ_ _ _=>.mk _
def P23 : Pl :=(.n none .z (.n none .z (.n none (.n none .z (.n none (.n (some [5,1,0]) .z .z) .z)) .z)))
def S23 : tE2 Tryz.prog P23 23 :=λ_ _ _ _=>.mk _
def P24 : Pl :=.z
def S24 : tE1 Tryz.prog P24 24 :=λ_ _ _=>.mk _
def P25 : Pl :=.z
def S25 : tE1 Tryz.prog P25 25 :=λ_ _ _=>.mk _
def P26 : Pl :=.z
def S26 (c : CV) (a0 : AV) (h : AH) : R :=
y8 h 45 (.agg [(iI 0),(iI 0),(uU 0),(uU 0),(uU 0),(.bool false),(iI 0),(uU 0),(.bool false),(iI 0)]) λv0 h1=>
xv a0 λv2=>
qh v2 14 λv3=>
jK h1 v3 λv4=>
jv .eql v4 (iI 0) λv5=>
zQ v5 (
xv a0 λv6=>
qh v6 0 λv7=>
jK h1 v7 λv8=>
zx [(iI 0),(iI 0),(uU 0),(uU 0),(uU 0),(.bool false),(iI 0),(uU 0),(.bool false),(iI 0)] [(0,1,(iI 9)),(1,1,v8),(3,1,(uU 1))] λv9=>
jj h1 v0 v9 10 λh10=>
je h10 v0 10 λv11=>
some ((.tup [v11,(.bool true)]),h10)) (
jv .eql v4 (iI 1) λv12=>
zQ v12 (
zx [(iI 0),(iI 0),(uU 0),(uU 0),(uU 0),(.bool false),(iI 0),(uU 0),(.bool false),(iI 0)] [(0,1,(iI 6))] λv13=>
jj h1 v0 v13 10 λh14=>
je h14 v0 10 λv15=>
some ((.tup [v15,(.bool true)]),h14)) (
jv .eql v4 (iI 2) λv16=>
zQ v16 (
xv a0 λv17=>
qh v17 0 λv18=>
jK h1 v18 λv19=>
xv a0 λv20=>
qh v20 21 λv21=>
jK h1 v21 λv22=>
jv .add v22 (uU 1) λv23=>
zx [(iI 0),(iI 0),(uU 0),(uU 0),(uU 0),(.bool false),(iI 0),(uU 0),(.bool false),(iI 0)] [(0,1,(iI 9)),(1,1,v19),(3,1,v23)] λv24=>
jj h1 v0 v24 10 λh25=>
je h25 v0 10 λv26=>
some ((.tup [v26,(.bool true)]),h25)) (
jv .eql v4 (iI 7) λv27=>
zQ v27 (
xv a0 λv28=>
qh v28 0 λv29=>
jK h1 v29 λv30=>
zx [(iI 0),(iI 0),(uU 0),(uU 0),(uU 0),(.bool false),(iI 0),(uU 0),(.bool false),(iI 0)] [(0,1,(iI 9)),(1,1,v30)] λv31=>
jj h1 v0 v31 10 λh32=>
je h32 v0 10 λv33=>
some ((.tup [v33,(.bool true)]),h32)) (
jv .eql v4 (iI 8) λv34=>
zQ v34 (
zx [(iI 0),(iI 0),(uU 0),(uU 0),(uU 0),(.bool false),(iI 0),(uU 0),(.bool false),(iI 0)] [] λv35=>
jj h1 v0 v35 10 λh36=>
je h36 v0 10 λv37=>
some ((.tup [v37,(.bool false)]),h36)) (
xv a0 λv38=>
qh v38 15 λv39=>
jK h1 v39 λv40=>
xm c [(51,26),(107,325),(108,333),(109,336),(332,297)] v40 [] h1 λv41 h42=>
jb v41 0 λv43=>
jb v41 1 λv44=>
jj h42 v0 v43 10 λh45=>
je h45 v0 10 λv46=>
some ((.tup [v46,v44]),h45))))))
def W26 : WF :=w_1 S26
theorem W26_ok : WOk Tryz.prog 26 W26 :=Yn (pl :=P26) λ_ _ _=>by kernel_rfl
def P27 : Pl :=(.n none .z (.n none .z (.n none .z (.n none .z (.n (some []) (.n none .z (.n none .z (.n none .z (.n none (.n none (.r [[0]]) .z) .z)))) .z)))))
def S27 (c : CV) (a0 a1 : AV) (h : AH) : R :=
y8 h 42 a1 λv0 h1=>
xv a0 λv2=>
qh v2 14 λv3=>
jK h1 v3 λv4=>
jv .eql v4 (iI 8) λv5=>
zQ v5 (
some ((.tup []),h1)) (
qh v0 5 λv6=>
jK h1 v6 λv7=>
jv .neq v7 (iI 0) λv8=>
zQ v8 (
qh v0 5 λv9=>
jK h1 v9 λv10=>
jw c (.fn 58 [] []) [a0,(iI 4),v10,(.int .i64 (.negSucc 0))] h1 λ_ h12=>
xv a0 λv13=>
qh v13 14 λv14=>
jj h12 v14 (iI 8) 1 λh15=>
some ((.tup []),h15)) (
xv a0 λv16=>
qh v16 14 λv17=>
jK h1 v17 λv18=>
zN (α :=Unit→AH→List Nat→R) (λ_ h20 d21=>
zw d21 h20 λh23=>
some ((.tup []),h23)) λj22=>
jv .eql v18 (iI 0) λv24=>
zQ v24 (
xv a0 λv25=>
qh v25 14 λv26=>
jj h1 v26 (iI 1) 1 λh27=>
j22 (()) h27 []) (
jv .eql v18 (iI 1) λv28=>
zQ v28 (
zN (α :=AV×Unit→AH→R) (λs29 h30=>
xv s29.1 λv32=>
qh v32 14 λv33=>
jj h30 v33 (iI 2) 1 λh34=>
j22 (()) h34 []) λj31=>
qh v0 0 λv35=>
jK h1 v35 λv36=>
qh v0 0 λv37=>
jK h1 v37 λv38=>
xv a0 λv39=>
qh v39 19 λv40=>
jj h1 v40 (.bool true) 1 λh41=>
xv a0 λv42=>
qh v42 20 λv43=>
jj h41 v43 v36 1 λh44=>
xv a0 λv45=>
qh v45 21 λv46=>
jj h44 v46 v38 1 λh47=>
QC v37 none v38 h41 h44 h1.nx<|
QC v37 none v38 h1 h41 h1.nx<|
QC v35 none v36 h1 h41 h1.nx<|
j31 (a0,()) h47) (
jv .eql v18 (iI 2) λv48=>
zQ v48 (
jw c (.fn 59 [] []) [a0] h1 λ_ h50=>
j22 (()) h50 []) (
jv .eql v18 (iI 7) λv51=>
zQ v51 (
xv a0 λv52=>
qh v52 14 λv53=>
jj h1 v53 (iI 8) 1 λh54=>
j22 (()) h54 []) (
xv a0 λv55=>
qh v55 15 λv56=>
jK h1 v56 λv57=>
je h1 v0 6 λv58=>
xm c [(51,27),(107,326),(108,334),(109,337)] v57 [v58] h1 λ_ h60=>
jw c (.fn 60 [] []) [a0] h60 λ_ h62=>
j22 (()) h62 []))))))
def W27 : WF :=w_2 S27
theorem W27_ok : WOk Tryz.prog 27 W27 :=MY (pl :=P27) λ_ _ _ _=>by kernel_rfl
def P28 : Pl :=.z
def S28 : tE1 Tryz.prog P28 28 :=λ_ _ _=>.mk _
def P29 : Pl :=.z
def S29 : tE1 Tryz.prog P29 29 :=λ_ _ _=>.mk _
def P30 : Pl :=(.n none .z (.n none (.r [[13,8,0],[21,15,0],[27,21,15],[28,15]]) .z))
def S30 : tE1 Tryz.prog P30 30 :=λ_ _ _=>.mk _
def P31 : Pl :=(.n none .z (.n none (.r [[12,8]]) .z))
def S31 : tE1 Tryz.prog P31 31 :=λ_ _ _=>.mk _
def P32 : Pl :=(.n none .z (.n none .z (.n (some [1,0]) .z .z)))
def S32 : tE3 Tryz.prog P32 32 :=λ_ _ _ _ _=>.mk _
def P33 : Pl :=.z
def S33 : tE1 Tryz.prog P33 33 :=λ_ _ _=>.mk _
def P34 : Pl :=.z
def S34 : tE1 Tryz.prog P34 34 :=λ_ _ _=>.mk _
def P35 : Pl :=.z
def S35 : tE2 Tryz.prog P35 35 :=λ_ _ _ _=>.mk _
def P36 : Pl :=.z
def S36 : tE1 Tryz.prog P36 36 :=λ_ _ _=>.mk _
def P37 : Pl :=.z
def S37 : tE1 Tryz.prog P37 37 :=λ_ _ _=>.mk _
def P38 : Pl :=(.n none .z (.n none .z (.n none (.n none .z (.n (some [5,4]) .z .z)) .z)))
def S38 : tE2 Tryz.prog P38 38 :=λ_ _ _ _=>.mk _
def P39 : Pl :=.z
def S39 : tE1 Tryz.prog P39 39 :=λ_ _ _=>.mk _
def P40 : Pl :=(.n none .z (.n none .z (.n none (.n none .z (.n none (.n none .z (.n none (.n none (.r [[5,4]]) .z) .z)) .z)) (.n none (.r [[5,4]]) .z))))
def S40 : tE2 Tryz.prog P40 40 :=λ_ _ _ _=>.mk _
def P41 : Pl :=.z
def S41 : tE1 Tryz.prog P41 41 :=λ_ _ _=>.mk _
def P42 : Pl :=(.n none .z (.n none (.r [[5,4,3,2,1]]) (.n none .z (.n none .z (.n none (.n none .z (.n none (.n (some [23,22,7,6,5,4,3,2,1]) .z (.n none .z (.n none .z (.n none .z (.n none .z (.n none .z (.n none .z (.n none .z (.n (some [54,22,7,6,4,3,2,1]) .z (.n none .z (.n (some [62,22,7,6,4,3,2,1]) .z (.n none .z (.n none .z (.n none .z (.n none .z (.n none .z (.n (some [86,22,7,6,4,3,2]) .z .z))))))))))))))))) .z)) .z)))))
def S42 : tE1 Tryz.prog P42 42 :=λ_ _ _=>.mk _
def P43 : Pl :=(.n none .z (.n none .z (.n none (.r [[4]]) .z)))
def S43 : tE2 Tryz.prog P43 43 :=λ_ _ _ _=>.mk _
def P44 : Pl :=(.n none .z (.n none .z (.n none .z (.n none (.r [[6]]) .z))))
def S44 : tE3 Tryz.prog P44 44 :=λ_ _ _ _ _=>.mk _
def P45 : Pl :=(.n none .z (.n none .z (.n none (.n none .z (.n none (.n (some [6,5,0]) (.n none .z (.n none (.n none (.n none .z (.n (some [7,6,5,0]) .z .z)) .z) .z)) .z) .z)) .z)))
def S45 : tE2 Tryz.prog P45 45 :=λ_ _ _ _=>.mk _
def P46 : Pl :=(.n none .z (.n none (.n none (.n (some [0]) (.n none .z (.n (some [0]) (.n none .z (.n none .z (.n none .z (.n none .z (.n (some [0]) .z .z))))) .z)) .z) .z) .z))
def S46 : tE1 Tryz.prog P46 46 :=λ_ _ _=>.mk _
def P47 : Pl :=.z
def S47 : tE1 Tryz.prog P47 47 :=λ_ _ _=>.mk _
def P48 : Pl :=.z
def S48 : tE1 Tryz.prog P48 48 :=λ_ _ _=>.mk _
def P49 : Pl :=(.n none .z (.n none .z (.n none (.n none .z (.n none (.n (some [17,16,15,3]) .z .z) .z)) .z)))
def S49 (c : CV) (a0 : AV) (h : AH) : R :=
xv a0 λv0=>
qh v0 0 λv1=>
jK h v1 λv2=>
y7 v2 λv3=>
w7 h 9 [(.str [])] v3 v3 λv4 h5=>
xv a0 λv6=>
qh v6 0 λv7=>
jK h5 v7 λv8=>
y7 v8 λv9=>
QR (σ :=AV×AV×AV×AV×Unit) NN (λi13 s10 h11 d12=>
jv .lss s10.1 s10.2.1 λv14=>
zQ v14 (
yB s10.2.2.1 s10.1 1 λv15=>
jK h11 v15 λv16=>
jw c (.fn 84 [] []) [v16] h11 λv17 h18=>
yB s10.2.2.2.1 s10.1 1 λv19=>
jj h18 v19 v17 1 λh20=>
jv .add s10.1 (iI 1) λv21=>
i13 (v21,s10.2.1,s10.2.2.1,s10.2.2.2.1,()) h20 d12) (
jw c (.fn 85 [] []) [s10.2.2.2.1,(.str [32])] h11 λv22 h23=>
zw d12 h23 λh24=>
some (v22,h24))) ((iI 0),v9,v8,v4,()) h5 []
def W49 : WF :=w_1 S49
theorem W49_ok : WOk Tryz.prog 49 W49 :=Yn (pl :=P49) λ_ _ _=>by kernel_rfl
def P50 : Pl :=.z
def S50 : tE1 Tryz.prog P50 50 :=λ_ _ _=>.mk _
def P51 : Pl :=.z
def S51 : tE1 Tryz.prog P51 51 :=λ_ _ _=>.mk _
def P52 : Pl :=(.n none .z (.n none .z (.n none .z (.n none (.n none .z (.n none (.n (some [23,22,21,5]) (.n none .z (.n none .z (.n none (.n (some [23,22,21,5]) (.n none .z (.n none (.r [[35,30,23,22,21,7,5]]) .z)) .z) .z))) .z) .z)) .z))))
def S52 : tE2 Tryz.prog P52 52 :=λ_ _ _ _=>.mk _
def P53 : Pl :=.z
def S53 : tE1 Tryz.prog P53 53 :=λ_ _ _=>.mk _
def P54 : Pl :=.z
def S54 : tE1 Tryz.prog P54 54 :=λ_ _ _=>.mk _
def P55 : Pl :=(.n none .z (.n none (.r [[8,6]]) .z))
def S55 : tE1 Tryz.prog P55 55 :=λ_ _ _=>.mk _
def P56 : Pl :=.z
def S56 : tE1 Tryz.prog P56 56 :=λ_ _ _=>.mk _
def P57 : Pl :=.z
def S57 : tE1 Tryz.prog P57 57 :=λ_ _ _=>.mk _
def P58 : Pl :=.z
def S58 : tE4 Tryz.prog P58 58 :=λ_ _ _ _ _ _=>.mk _
def P59 : Pl :=(.n none .z (.n none .z (.n (some []) (.n none .z (.n none .z (.n none .z (.n none .z (.n none .z (.n none .z (.n none .z (.n none .z (.n none (.r [[0]]) .z))))))))) .z)))
def S59 : tE1 Tryz.prog P59 59 :=λ_ _ _=>.mk _
def P60 : Pl :=(.n none (.n none .z (.n (some [0]) .z .z)) .z)
def S60 (c : CV) (a0 : AV) (h : AH) : R :=
xv a0 λv0=>
qh v0 15 λv1=>
jK h v1 λv2=>
xm c [(51,16),(107,179),(108,183),(109,62),(214,98)] v2 [] h λv3 h4=>
zN (α :=AV×Unit→AH→List Nat→R) (λs5 h6 d7=>
jw c (.fn 30 [] []) [s5.1] h6 λv9 h10=>
zQ v9 (
xv s5.1 λv11=>
qh v11 18 λv12=>
jK h10 v12 λv13=>
jw c (.fn 97 [] []) [v13] h10 λv14 h15=>
xv s5.1 λv16=>
qh v16 21 λv17=>
jj h15 v17 v14 1 λh18=>
zw d7 h18 λh19=>
some ((.tup []),h19)) (
zw d7 h10 λh20=>
some ((.tup []),h20))) λj8=>
jv .eql v3 (iI 0) λv21=>
zQ v21 (
j8 (a0,()) h4 []) (
jv .eql v3 (iI 5) λv22=>
zQ v22 (
xv a0 λv23=>
qh v23 15 λv24=>
jK h4 v24 λv25=>
xm c [(51,29),(107,324),(108,332),(109,335),(214,327)] v25 [] h4 λv26 h27=>
jw c (.fn 58 [] []) [a0,(iI 5),(iI 0),v26] h27 λ_ h29=>
j8 (a0,()) h29 []) (
jw c (.fn 96 [] []) [a0] h4 λ_ h31=>
j8 (a0,()) h31 []))
def W60 : WF :=w_1 S60
theorem W60_ok : WOk Tryz.prog 60 W60 :=Yn (pl :=P60) λ_ _ _=>by kernel_rfl
def P61 : Pl :=(.n none .z (.n none (.r [[10,7]]) .z))
def S61 : tE1 Tryz.prog P61 61 :=λ_ _ _=>.mk _
def P62 : Pl :=.z
def S62 : tE1 Tryz.prog P62 62 :=λ_ _ _=>.mk _
def P63 : Pl :=.z
def S63 : tE2 Tryz.prog P63 63 :=λ_ _ _ _=>.mk _
def P64 : Pl :=.z
def S64 : tE2 Tryz.prog P64 64 :=λ_ _ _ _=>.mk _
def P65 : Pl :=.z
def S65 : tE3 Tryz.prog P65 65 :=λ_ _ _ _ _=>.mk _
def P66 : Pl :=.z
def S66 : tE2 Tryz.prog P66 66 :=λ_ _ _ _=>.mk _
def P67 : Pl :=.z
def S67 (c : CV) (a0 a1 a2 a3 : AV) (h : AH) : R :=
y8 h 39 a2 λv0 h1=>
y8 h1 39 a3 λv2 h3=>
je h3 v2 3 λv4=>
jw c (.fn 101 [] []) [a0,a1,v4] h3 λv5 h6=>
jv .neq v5 (iI 0) λv7=>
zQ v7 (
some ((.tup [(.bool false),v5]),h6)) (
xv a0 λv8=>
qh v8 0 λv9=>
jK h6 v9 λv10=>
yB v10 a1 3 λv11=>
je h6 v11 3 λv12=>
je h6 v0 3 λv13=>
J6 [.bas .int 0,.bas .bool 1,.bas .int 2] true v12 v13 λv14=>
zQ v14 (
some ((.tup [(.bool false),(iI 0)]),h6)) (
xv a0 λv15=>
qh v15 0 λv16=>
jK h6 v16 λv17=>
je h6 v2 3 λv18=>
yB v17 a1 3 λv19=>
jj h6 v19 v18 3 λh20=>
some ((.tup [(.bool true),(iI 0)]),h20)))
def W67 : WF :=w_4 S67
theorem W67_ok : WOk Tryz.prog 67 W67 :=qkL (pl :=P67) λ_ _ _ _ _ _=>by kernel_rfl
def P68 : Pl :=(.n none .z (.n none .z (.n (some [7]) .z .z)))
def S68 : tE3 Tryz.prog P68 68 :=λ_ _ _ _ _=>.mk _
def P69 : Pl :=.z
def S69 : tE3 Tryz.prog P69 69 :=λ_ _ _ _ _=>.mk _
def P70 : Pl :=.z
def S70 : tE2 Tryz.prog P70 70 :=λ_ _ _ _=>.mk _
def P71 : Pl :=.z
def S71 : tE3 Tryz.prog P71 71 :=λ_ _ _ _ _=>.mk _
def P72 : Pl :=.z
def S72 : tE1 Tryz.prog P72 72 :=λ_ _ _=>.mk _
def P73 : Pl :=(.n none .z (.n none (.r [[2]]) .z))
def S73 : tE1 Tryz.prog P73 73 :=λ_ _ _=>.mk _
def P74 : Pl :=.z
def S74 : tE2 Tryz.prog P74 74 :=λ_ _ _ _=>.mk _
def P75 : Pl :=.z
def S75 : tE1 Tryz.prog P75 75 :=λ_ _ _=>.mk _
def P76 : Pl :=(.n none .z (.n none (.n none (.r [[16,12,1]]) .z) (.n none .z (.n none (.n none .z (.n none (.n (some [21,20,19,4,1]) .z .z) .z)) (.n none .z (.n none (.r [[3,2]]) .z))))))
def S76 : tE1 Tryz.prog P76 76 :=λ_ _ _=>.mk _
def P77 : Pl :=(.n none .z (.n none .z (.n none .z (.n none .z (.n none (.n none .z (.n none (.n (some [27,26,6,5,1]) .z .z) .z)) (.n none (.n none .z (.n none (.n (some [37,36,35,6,5,1]) (.n none .z (.n none .z (.n none (.n (some [37,36,35,6,5,1]) .z .z) .z))) .z) .z)) (.n none (.n none .z (.n none (.n (some [57,56,55,6,5]) (.n none .z (.n none .z (.n none (.n (some [57,56,55,6,5]) .z .z) .z))) .z) .z)) .z)))))))
def S77 : tE1 Tryz.prog P77 77 :=λ_ _ _=>.mk _
def P78 : Pl :=.z
def S78 : tE0 Tryz.prog P78 78 :=λ_ _=>.mk _
def P79 : Pl :=.z
def S79 : tE1 Tryz.prog P79 79 :=λ_ _ _=>.mk _
def P80 : Pl :=.z
def S80 : tE3 Tryz.prog P80 80 :=λ_ _ _ _ _=>.mk _
def P81 : Pl :=.z
def S81 : tE2 Tryz.prog P81 81 :=λ_ _ _ _=>.mk _
def P82 : Pl :=(.n none .z (.n none .z (.n none (.n none .z (.n (some []) (.n none .z (.n none .z (.n none .z (.n none .z (.n none .z (.n none .z (.n none .z (.n none .z (.n none .z (.n none .z (.n none .z (.n none .z (.n none .z (.n none .z (.n none .z (.n none .z (.n none .z (.n none .z (.n none .z (.n none .z (.n none .z (.n none .z (.n none .z (.n none .z (.n (some [120,6,5,3,0]) .z .z))))))))))))))))))))))))) .z)) .z)))
def S82 : tE2 Tryz.prog P82 82 :=λ_ _ _ _=>.mk _
def P83 : Pl :=.z
def S83 : tE1 Tryz.prog P83 83 :=λ_ _ _=>.mk _
def P84 : Pl :=.z
def S84 (c : CV) (a0 : AV) (h : AH) : R :=
xz 24 (uU 0) a0 λv0=>
jb v0 1 λv1=>
jb v0 0 λv2=>
zQ v1 (
jw c (.fn 117 [] []) [v2,(iI 10)] h λv3 h4=>
some (v3,h4)) (
xz 4 (.bool false) a0 λv5=>
jb v5 1 λv6=>
jb v5 0 λv7=>
zQ v6 (
zQ v7 (
some ((.str [121,101,115]),h)) (
some ((.str [110,111]),h))) (
some ((.str [110,111,110,101]),h)))
def W84 : WF :=w_1 S84
theorem W84_ok : WOk Tryz.prog 84 W84 :=Yn (pl :=P84) λ_ _ _=>by kernel_rfl
def P86 : Pl :=(.n none .z (.n none .z (.n none (.n none .z (.n none (.n (some [3]) .z .z) .z)) .z)))
def S86 (c : CV) (a0 : AV) (h : AH) : R :=
y8 h 54 .nils λv0 h1=>
xv a0 λv2=>
qh v2 1 λv3=>
jK h1 v3 λv4=>
jw c (.fn 121 [] []) [v4] h1 λv5 h6=>
Qz c v5 [.yield (h6.new .dfd).nx] ((h6.new .dfd).new (.loop .ready none 86 [1,1,0,1,0] [3] [v0] h6.nx)) λ_ h7=>
yO h7 (h6.new .dfd).nx λp9 h8=>
Jv p9 (
jK h8 v0 λv10=>
zw (h6.nx::[]) h8 λh11=>
some (v10,h11))<|
none
def W86 : WF :=w_1 S86
theorem W86_ok : WOk Tryz.prog 86 W86 :=Yn (pl :=P86) λ_ _ _=>by kernel_rfl
def P87 : Pl :=(.n none .z (.n none .z (.n none (.n none .z (.n none (.n (some [11,10,9,3]) .z .z) .z)) .z)))
def S87 : tE1 Tryz.prog P87 87 :=λ_ _ _=>.mk _
def P88 : Pl :=.z
def S88 : tE1 Tryz.prog P88 88 :=λ_ _ _=>.mk _
def P89 : Pl :=(.n none .z (.n none (.n none .z (.n none (.n none (.r [[3,2]]) .z) .z)) (.n none (.n none (.n (some [0]) .z .z) .z) .z)))
def S89 : tE1 Tryz.prog P89 89 :=λ_ _ _=>.mk _
def P90 : Pl :=(.n none (.r [[0]]) .z)
def S90 : tE2 Tryz.prog P90 90 :=λ_ _ _ _=>.mk _
def P91 : Pl :=.z
def S91 : tE1 Tryz.prog P91 91 :=λ_ _ _=>.mk _
def P92 : Pl :=(.n none (.r [[1,0]]) .z)
def S92 : tE2 Tryz.prog P92 92 :=λ_ _ _ _=>.mk _
def P93 : Pl :=.z
def S93 : tE7 Tryz.prog P93 93 :=λ_ _ _ _ _ _ _ _ _=>.mk _
def P94 : Pl :=.z
def S94 : tE1 Tryz.prog P94 94 :=λ_ _ _=>.mk _
def P95 : Pl :=.z
def S95 : tE3 Tryz.prog P95 95 :=λ_ _ _ _ _=>.mk _
def P96 : Pl :=(.n none .z (.n (some []) (.n none .z (.n none .z (.n none .z (.n none .z (.n none .z (.n none .z (.n none .z (.n none (.r [[]]) .z)))))))) .z))
def S96 : tE1 Tryz.prog P96 96 :=λ_ _ _=>.mk _
def P97 : Pl :=.z
def S97 : tE1 Tryz.prog P97 97 :=λ_ _ _=>.mk _
def P98 : Pl :=.z
def S98 : tE1 Tryz.prog P98 98 :=λ_ _ _=>.mk _
def P99 : Pl :=(.n none .z (.n none (.r [[14,7]]) .z))
def S99 : tE2 Tryz.prog P99 99 :=λ_ _ _ _=>.mk _
def P100 : Pl :=(.n none .z (.n none (.r [[14,7]]) .z))
def S100 : tE2 Tryz.prog P100 100 :=λ_ _ _ _=>.mk _
def P101 : Pl :=.z
def S101 : tE3 Tryz.prog P101 101 :=λ_ _ _ _ _=>.mk _
def P102 : Pl :=(.n none .z (.n none (.r [[14,7]]) .z))
def S102 : tE2 Tryz.prog P102 102 :=λ_ _ _ _=>.mk _
def P103 : Pl :=.z
def S103 : tE1 Tryz.prog P103 103 :=λ_ _ _=>.mk _
def P104 : Pl :=(.n none .z (.n none (.n none (.n none .z (.n none .z (.n none (.r [[11,5,3,1]]) (.n none .z (.n none (.r [[33,29,5,1]]) (.n none .z (.n none (.r [[42,39]]) .z))))))) .z) .z))
def S104 : tE3 Tryz.prog P104 104 :=λ_ _ _ _ _=>.mk _
def P105 : Pl :=(.n none .z (.n (some [2,1,0]) .z (.n (some [0]) (.n none (.r [[19,17,1,0]]) .z) .z)))
def S105 : tE3 Tryz.prog P105 105 :=λ_ _ _ _ _=>.mk _
def P106 : Pl :=.z
def S106 : tE1 Tryz.prog P106 106 :=λ_ _ _=>.mk _
def P107 : Pl :=(.n none .z (.n none (.n none .z (.n none (.n (some [11,10,9,2,1]) (.n none .z (.n none .z (.n none (.n (some [11,10,9,2,1]) (.n none .z (.n none .z (.n none (.r [[33,26,11,10,9,7,6,2,1],[38,33,26,11,10,9,7,6,2,1],[39,26,11,10,9,7,6,2,1],[48,41,11,10,9,7,6,2,1],[58,48,41,11,10,9,6,2,1],[59,41,11,10,9,6,2,1]]) .z))) .z) .z))) .z) .z)) .z))
def S107 : tE2 Tryz.prog P107 107 :=λ_ _ _ _=>.mk _
def P108 : Pl :=(.n none .z (.n none .z (.n none .z (.n none (.n none .z (.n none (.n (some [14,13,12,4,3]) .z .z) .z)) .z))))
def S108 : tE1 Tryz.prog P108 108 :=λ_ _ _=>.mk _
def P109 : Pl :=.z
def S109 : tE1 Tryz.prog P109 109 :=λ_ _ _=>.mk _
def P110 : Pl :=(.n none .z (.n none (.r [[14,7]]) .z))
def S110 : tE2 Tryz.prog P110 110 :=λ_ _ _ _=>.mk _
def P111 : Pl :=.z
def S111 : tE1 Tryz.prog P111 111 :=λ_ _ _=>.mk _
def P112 : Pl :=.z
def S112 : tE2 Tryz.prog P112 112 :=λ_ _ _ _=>.mk _
def P113 : Pl :=(.n none .z (.n none .z (.n none (.n none .z (.n none (.n none .z (.n none (.n none (.r [[4]]) .z) (.n none .z (.n none (.n none (.r [[4]]) .z) (.n none .z (.n none (.n none (.r [[4]]) .z) (.n none .z (.n none (.n none (.r [[4]]) .z) (.n none .z (.n none (.n none (.r [[4]]) .z) (.n none .z (.n none (.n none (.r [[4]]) .z) (.n none .z (.n none .z (.n none .z (.n none .z (.n none .z (.n none (.n none (.r [[4]]) .z) (.n none .z (.n none (.n none (.r [[4]]) .z) (.n none .z (.n none (.n none (.r [[4]]) .z) .z)))))))))))))))))))))) .z)) .z)))
def S113 : tE2 Tryz.prog P113 113 :=λ_ _ _ _=>.mk _
def P114 : Pl :=(.n none .z (.n none (.n none .z (.n none (.n none .z (.n none (.n none .z (.n none .z (.n none .z (.n (some [10]) .z .z)))) (.n none .z (.n none .z (.n none .z (.n none (.n none .z (.n none .z (.n (some [15]) .z .z))) .z)))))) .z)) .z))
def S114 : tE4 Tryz.prog P114 114 :=λ_ _ _ _ _ _=>.mk _
def P115 : Pl :=(.n none .z (.n none (.n none .z (.n none (.n (some [7,6,3,0]) .z (.n none .z (.n (some [18,6,0]) .z .z))) .z)) .z))
def S115 : tE2 Tryz.prog P115 115 :=λ_ _ _ _=>.mk _
def P116 : Pl :=.z
def S116 : tE1 Tryz.prog P116 116 :=λ_ _ _=>.mk _
def P117 : Pl :=.z
def S117 : tE2 Tryz.prog P117 117 :=λ_ _ _ _=>.mk _
def P121 : Pl :=.z
def S121 : tE1 Tryz.prog P121 121 :=λ_ _ _=>.mk _
def P122 : Pl :=.z
def S122 : tE1 Tryz.prog P122 122 :=λ_ _ _=>.mk _
def P123 : Pl :=(.n none .z (.n none .z (.n none (.n none .z (.n none (.n (some [13,12,11,5,0]) .z .z) .z)) .z)))
def S123 : tE2 Tryz.prog P123 123 :=λ_ _ _ _=>.mk _
def P124 : Pl :=.z
def S124 : tE1 Tryz.prog P124 124 :=λ_ _ _=>.mk _
def P125 : Pl :=(.n none .z (.n none .z (.n (some [7,5,1,0]) (.n none (.r [[19,18,7,5,1,0]]) .z) .z)))
def S125 : tE2 Tryz.prog P125 125 :=λ_ _ _ _=>.mk _
def P126 : Pl :=.z
def S126 : tE5 Tryz.prog P126 126 :=λ_ _ _ _ _ _ _=>.mk _
def P127 : Pl :=.z
def S127 : tE3 Tryz.prog P127 127 :=λ_ _ _ _ _=>.mk _
def P128 : Pl :=.z
def S128 : tE3 Tryz.prog P128 128 :=λ_ _ _ _ _=>.mk _
def P129 : Pl :=.z
def S129 : tE2 Tryz.prog P129 129 :=λ_ _ _ _=>.mk _
def P130 : Pl :=.z
def S130 : tE1 Tryz.prog P130 130 :=λ_ _ _=>.mk _
def P131 : Pl :=.z
def S131 : tE1 Tryz.prog P131 131 :=λ_ _ _=>.mk _
def P132 : Pl :=(.n none .z (.n none .z (.n none (.n none .z (.n none (.n (some [13,12,11,7,2,1]) (.n none .z (.n none .z (.n none (.n (some [13,12,11,7,2,1]) .z .z) .z))) .z) .z)) .z)))
def S132 : tE3 Tryz.prog P132 132 :=λ_ _ _ _ _=>.mk _
def P133 : Pl :=.z
def S133 : tE1 Tryz.prog P133 133 :=λ_ _ _=>.mk _
def P134 : Pl :=(.n none .z (.n none (.r [[2,0]]) (.n none .z (.n (some []) (.n none .z (.n none (.n none (.r [[0]]) .z) .z)) .z))))
def S134 : tE1 Tryz.prog P134 134 :=λ_ _ _=>.mk _
def P135 : Pl :=.z
def S135 : tE1 Tryz.prog P135 135 :=λ_ _ _=>.mk _
def P136 : Pl :=.z
def S136 : tE1 Tryz.prog P136 136 :=λ_ _ _=>.mk _
def P137 : Pl :=(.n none .z (.n none (.n none .z (.n none (.n none (.r [[11,8]]) .z) .z)) (.n none (.r [[19,16]]) .z)))
def S137 : tE1 Tryz.prog P137 137 :=λ_ _ _=>.mk _
def P138 : Pl :=.z
def S138 : tE0 Tryz.prog P138 138 :=λ_ _=>.mk _
def P139 : Pl :=(.n none .z (.n none .z (.n none (.r [[21,17,5,4,1],[27,23,5,1],[33,29,1],[39,35,1],[42,39,35],[43,35]]) .z)))
def S139 : tE1 Tryz.prog P139 139 :=λ_ _ _=>.mk _
def P140 : Pl :=(.n none .z (.n none .z (.n none (.r [[4]]) .z)))
def S140 : tE2 Tryz.prog P140 140 :=λ_ _ _ _=>.mk _
def P141 : Pl :=(.n none .z (.n none (.r [[7,5]]) .z))
def S141 : tE1 Tryz.prog P141 141 :=λ_ _ _=>.mk _
def P142 : Pl :=(.n none .z (.n none (.r [[7,5]]) .z))
def S142 : tE1 Tryz.prog P142 142 :=λ_ _ _=>.mk _
def P143 : Pl :=.z
def S143 : tE2 Tryz.prog P143 143 :=λ_ _ _ _=>.mk _
def P144 : Pl :=.z
def S144 : tE2 Tryz.prog P144 144 :=λ_ _ _ _=>.mk _
def P145 : Pl :=(.n none .z (.n none .z (.n none .z (.n none (.r [[17,15,9]]) .z))))
def S145 : tE3 Tryz.prog P145 145 :=λ_ _ _ _ _=>.mk _
def P146 : Pl :=(.n none .z (.n none .z (.n none .z (.n none (.r [[17,15,9]]) .z))))
def S146 : tE3 Tryz.prog P146 146 :=λ_ _ _ _ _=>.mk _
def P147 : Pl :=(.n none .z (.n none .z (.n none .z (.n none (.r [[17,15,9]]) .z))))
def S147 : tE3 Tryz.prog P147 147 :=λ_ _ _ _ _=>.mk _
def P148 : Pl :=(.n none .z (.n none .z (.n none .z (.n none (.r [[19,17,11]]) .z))))
def S148 : tE4 Tryz.prog P148 148 :=λ_ _ _ _ _ _=>.mk _
def P149 : Pl :=.z
def S149 : tE2 Tryz.prog P149 149 :=λ_ _ _ _=>.mk _
def P150 : Pl :=.z
def S150 : tE3 Tryz.prog P150 150 :=λ_ _ _ _ _=>.mk _
def P151 : Pl :=(.n none .z (.n none .z (.n none .z (.n none (.r [[17,15,9]]) .z))))
def S151 : tE3 Tryz.prog P151 151 :=λ_ _ _ _ _=>.mk _
def P152 : Pl :=.z
def S152 : tE3 Tryz.prog P152 152 :=λ_ _ _ _ _=>.mk _
def P153 : Pl :=(.n none .z (.n none .z (.n none (.n none (.r [[24,22,9,8,7,4,0]]) .z) .z)))
def S153 : tE3 Tryz.prog P153 153 :=λ_ _ _ _ _=>.mk _
def P154 : Pl :=(.n none .z (.n none .z (.n none .z (.n none (.r [[19,17,11]]) .z))))
def S154 : tE4 Tryz.prog P154 154 :=λ_ _ _ _ _ _=>.mk _
def P155 : Pl :=.z
def S155 : tE3 Tryz.prog P155 155 :=λ_ _ _ _ _=>.mk _
def P156 : Pl :=(.n none .z (.n none .z (.n none .z (.n none (.r [[17,15,9]]) .z))))
def S156 : tE3 Tryz.prog P156 156 :=λ_ _ _ _ _=>.mk _
def P157 : Pl :=.z
def S157 : tE4 Tryz.prog P157 157 :=λ_ _ _ _ _ _=>.mk _
def P158 : Pl :=(.n none .z (.n none (.n none (.r [[13,8,1,0],[20,15,1,0]]) .z) .z))
def S158 : tE2 Tryz.prog P158 158 :=λ_ _ _ _=>.mk _
def P159 : Pl :=.z
def S159 : tE2 Tryz.prog P159 159 :=λ_ _ _ _=>.mk _
def P160 : Pl :=.z
def S160 : tE3 Tryz.prog P160 160 :=λ_ _ _ _ _=>.mk _
def P161 : Pl :=.z
def S161 : tE2 Tryz.prog P161 161 :=λ_ _ _ _=>.mk _
def P162 : Pl :=(.n none .z (.n none .z (.n (some [7,5,1,0]) (.n none (.r [[19,17,7,5,1,0]]) .z) (.n (some [7,1,0]) .z (.n (some [7]) .z .z)))))
def S162 : tE2 Tryz.prog P162 162 :=λ_ _ _ _=>.mk _
def P163 : Pl :=(.n none .z (.n none .z (.n none (.r [[]]) .z)))
def S163 : tE3 Tryz.prog P163 163 :=λ_ _ _ _ _=>.mk _
def P164 : Pl :=.z
def S164 : tE1 Tryz.prog P164 164 :=λ_ _ _=>.mk _
def P165 : Pl :=.z
def S165 : tE1 Tryz.prog P165 165 :=λ_ _ _=>.mk _
def P166 : Pl :=.z
def S166 : tE2 Tryz.prog P166 166 :=λ_ _ _ _=>.mk _
def P167 : Pl :=.z
def S167 : tE1 Tryz.prog P167 167 :=λ_ _ _=>.mk _
def P168 : Pl :=(.n none .z (.n none (.n none (.n (some [0]) .z .z) .z) .z))
def S168 : tE1 Tryz.prog P168 168 :=λ_ _ _=>.mk _
def P169 : Pl :=.z
def S169 : tE2 Tryz.prog P169 169 :=λ_ _ _ _=>.mk _
def P172 : Pl :=(.n none .z (.n none (.n (some [3,1,0]) .z .z) .z))
def S172 : tE2 Tryz.prog P172 172 :=λ_ _ _ _=>.mk _
def P173 : Pl :=(.n none .z (.n none (.n none (.r [[12,10,2,1,0]]) .z) .z))
def S173 : tE3 Tryz.prog P173 173 :=λ_ _ _ _ _=>.mk _
def P174 : Pl :=(.n none .z (.n none (.n none (.r [[17,13,1,0]]) .z) .z))
def S174 : tE2 Tryz.prog P174 174 :=λ_ _ _ _=>.mk _
def P175 : Pl :=.z
def S175 : tE1 Tryz.prog P175 175 :=λ_ _ _=>.mk _
def P176 : Pl :=(.n none .z (.n none (.n none .z (.n none (.n (some [9,8,7,1,0]) .z .z) .z)) .z))
def S176 : tE2 Tryz.prog P176 176 :=λ_ _ _ _=>.mk _
def P179 : Pl :=.z
def S179 : tE1 Tryz.prog P179 179 :=λ_ _ _=>.mk _
def P180 : Pl :=(.n none .z (.n none (.n none (.r [[13,10,3,0],[18,15,3,0]]) .z) .z))
def S180 : tE2 Tryz.prog P180 180 :=λ_ _ _ _=>.mk _
def P181 : Pl :=.z
def S181 : tE1 Tryz.prog P181 181 :=λ_ _ _=>.mk _
def P182 : Pl :=.z
def S182 : tE1 Tryz.prog P182 182 :=λ_ _ _=>.mk _
def P183 : Pl :=.z
def S183 : tE1 Tryz.prog P183 183 :=λ_ _ _=>.mk _
def P184 : Pl :=.z
def S184 : tE1 Tryz.prog P184 184 :=λ_ _ _=>.mk _
def P185 : Pl :=(.n none .z (.n none (.r [[7,5]]) .z))
def S185 : tE1 Tryz.prog P185 185 :=λ_ _ _=>.mk _
def P186 : Pl :=(.n none .z (.n none .z (.n none (.n none .z (.n (some [4,3,2]) (.n (some [8,7,5,4,3,2]) .z (.n none .z (.n (some [13,7,5,4,3,2]) .z (.n none (.r [[4,3,2]]) (.n (some [18,7,5,4,3,2]) .z (.n none (.r [[4,3,2]]) (.n (some [27,7,5,4,3,2]) .z (.n none (.r [[4,3,2]]) .z)))))))) .z)) (.n none (.r [[4,3,2]]) .z))))
def S186 : tE1 Tryz.prog P186 186 :=λ_ _ _=>.mk _
def P187 : Pl :=.z
def S187 : tE1 Tryz.prog P187 187 :=λ_ _ _=>.mk _
def P188 : Pl :=(.n none .z (.n none (.r [[13,9]]) .z))
def S188 : tE2 Tryz.prog P188 188 :=λ_ _ _ _=>.mk _
def P189 : Pl :=(.n none .z (.n none .z (.n none .z (.n none (.r [[]]) .z))))
def S189 : tE4 Tryz.prog P189 189 :=λ_ _ _ _ _ _=>.mk _
def P190 : Pl :=.z
def S190 : tE2 Tryz.prog P190 190 :=λ_ _ _ _=>.mk _
def P191 : Pl :=(.n none .z (.n none (.n none (.r [[17,15,2,0]]) .z) (.n none .z (.n none .z (.n none .z (.n none .z (.n none .z (.n none (.n none .z (.n none (.n (some [67,66,65,0]) .z .z) .z)) .z))))))))
def S191 : tE3 Tryz.prog P191 191 :=λ_ _ _ _ _=>.mk _
def P192 : Pl :=(.n none .z (.n none (.n none (.r [[22,18,6,5,3,2,0]]) .z) .z))
def S192 : tE4 Tryz.prog P192 192 :=λ_ _ _ _ _ _=>.mk _
def P193 : Pl :=(.n none .z (.n none .z (.n none (.n (some [7,6]) (.n (some [7,6,2,0]) (.n none .z (.n none (.n none .z (.n none (.n none (.r [[22,16,7,6,2,0]]) .z) .z)) .z)) .z) .z) .z)))
def S193 : tE3 Tryz.prog P193 193 :=λ_ _ _ _ _=>.mk _
def P194 : Pl :=.z
def S194 : tE1 Tryz.prog P194 194 :=λ_ _ _=>.mk _
def P195 : Pl :=(.n none .z (.n none (.r [[11,9,2,1,0],[19,13]]) .z))
def S195 : tE3 Tryz.prog P195 195 :=λ_ _ _ _ _=>.mk _
def P196 : Pl :=.z
def S196 : tE2 Tryz.prog P196 196 :=λ_ _ _ _=>.mk _
def P197 : Pl :=.z
def S197 : tE3 Tryz.prog P197 197 :=λ_ _ _ _ _=>.mk _
def P198 : Pl :=.z
def S198 : tE3 Tryz.prog P198 198 :=λ_ _ _ _ _=>.mk _
def P199 : Pl :=.z
def S199 : tE4 Tryz.prog P199 199 :=λ_ _ _ _ _ _=>.mk _
def P200 : Pl :=.z
def S200 : tE2 Tryz.prog P200 200 :=λ_ _ _ _=>.mk _
def P201 : Pl :=.z
def S201 : tE2 Tryz.prog P201 201 :=λ_ _ _ _=>.mk _
def P202 : Pl :=.z
def S202 : tE4 Tryz.prog P202 202 :=λ_ _ _ _ _ _=>.mk _
def P203 : Pl :=(.n none .z (.n (some [6,4,3,2,0]) (.n none (.r [[20,15,6,4,3,2,1,0]]) .z) (.n none .z (.n none .z (.n none .z (.n (some [7,6,4,3,2,0]) (.n none (.r [[53,43,7,6,4,3,2,0],[60,55,7,6,4,3,2,0]]) .z) .z))))))
def S203 : tE5 Tryz.prog P203 203 :=λ_ _ _ _ _ _ _=>.mk _
def P204 : Pl :=(.n none .z (.n none .z (.n none .z (.n none .z (.n none .z (.n (some [6,5,0]) (.n none (.r [[40,38,6,5,0],[47,42,6,5,0]]) .z) .z))))))
def S204 : tE2 Tryz.prog P204 204 :=λ_ _ _ _=>.mk _
def P205 : Pl :=(.n none .z (.n none .z (.n none (.n none .z (.n none (.n (some [14,5,1,0]) .z .z) .z)) .z)))
def S205 : tE2 Tryz.prog P205 205 :=λ_ _ _ _=>.mk _
def P206 : Pl :=(.n none .z (.n none (.r [[4,1,0]]) (.n none (.n none (.n (some [4,1,0]) (.n none .z (.n none (.n none .z (.n none (.n none (.r [[39,30,5,4,1,0]]) .z) .z)) .z)) .z) .z) .z)))
def S206 : tE2 Tryz.prog P206 206 :=λ_ _ _ _=>.mk _
end
end Go.Proofs.YtnalffoigcmnnaaGreatDoor
