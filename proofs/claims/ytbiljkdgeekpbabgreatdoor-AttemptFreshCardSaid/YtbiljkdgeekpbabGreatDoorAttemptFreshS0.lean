/- Printed by a program of mine: the bodies of the program's functions aa terms of the primitives of the abstract executor, each shown equal by the kernel. -/
import Derived.Test.YtbiljkdgeekpbabGreatDoorProg
import Derived.Test.YtbiljkdgeekpbabGreatDoorAttemptFreshAe1
import Derived.KernelRfl
namespace Go.Proofs.YtbiljkdgeekpbabGreatDoor
open Go Go.Ae
abbrev u9_0 : Type :=AV×AV×AV×AV×AV×AV×AV×AV×AV×Unit
abbrev u7_0 : Type :=AV×AV×AV×AV×AV×AV×AV×Unit
abbrev u4_0 : Type :=AV×AV×AV×AV×Unit
abbrev u3_0 : Type :=AV×AV×AV×Unit
set_option maxRecDepth 100000
noncomputable section
attribute [local irreducible] zW xi xh z7 ql XH JT vv wR JI JL vI jJ jt jv jD gB Uf pEq XQ pUn y6 Jg UM Ma gM yX gc yZ wN ji kV kN pMM vq zh xU w7 yJ y0 Gw Jc w5 Gn JN YM Nv GY Gm Ys jF xm Qz XM QX xW ym pIs Q7 U0 zS zb Q6 AV.undef
set_option maxHeartbeats 40000000
def P3 : Pl :=(.n none .z (.n none .z (.n none .z (.n none .z (.n none .z (.n none .z (.n none .z (.n none (.n none (.r [[51,49,11,8,7,0]]) .z) (.n none .z (.n none .z (.n none (.n none .z (.n none (.n (some [14,13,12,11,8,7,0]) (.n none (.n none (.r [[59,57,14,13,12,11,8,7,0]]) .z) (.n none (.n (some [14,13,12,11,8,7,0]) (.n none (.n none .z (.n none (.n (some [14,13,12,11,8,7,0]) .z .z) .z)) (.n (some [14,13,12,11,8,7,0]) (.n none (.r [[86,80,14,13,12,11,8,7,0]]) (.n none (.n none .z (.r [[14,13,12,11,8,7,0]])) .z)) .z)) .z) .z)) .z) .z)) (.n none .z (.n none (.n none .z (.n none (.n (some [18,17,12]) .z .z) .z)) (.n none (.r [[136,130]]) .z))))))))))))))
def S3 : tE3 Tryz.prog P3 3 :=λ_ _ _ _ _=>.mk _
def P4 : Pl :=(.n none .z (.n none .z (.n none .z (.n none (.n none (.r [[24,22,2,1]]) .z) (.n none .z (.n none (.n none .z (.n none (.n (some [4,3,2,1]) (.n none .z (.n none (.n none (.n none .z (.n none (.n none (.r [[50,44,5,4,3,2,1],[55,52,5,4,3,2,1]]) .z) .z)) .z) .z)) .z) .z)) (.n none .z (.n none .z (.n none (.r [[75,74,7,2],[79,77,2],[84,81,2],[89,86,2],[94,91,2],[99,96,2],[104,101,2],[109,106]]) .z)))))))))
def S4 (c : CV) (h : AH) : R :=
zh [(iI 0),(iI 0),(iI 0),(iI 0),(uU 0)] [(0,1,(iI 40)),(1,1,(iI 4)),(3,1,(iI 1)),(4,1,(uU 5))] λv0=>
jF c (.fn 5 [] []) [v0] h λv1 h2=>
zh [(iI 0),(iI 0),(iI 0),(iI 0),(uU 0)] [(0,1,(iI 40)),(1,1,(iI 4)),(3,1,(iI 1))] λv3=>
zh [(iI 0),(iI 0),(iI 0),(iI 0),(uU 0),(iI 0),(iI 0),(iI 0)] [(0,5,v3),(7,1,(iI 9))] λv4=>
zh [(iI 0),(iI 0),(iI 0),(iI 0),(uU 0)] [(0,1,(iI 1)),(4,1,(uU 3))] λv5=>
zh [(iI 0),(iI 0),(iI 0),(iI 0),(uU 0)] [(0,1,(iI 21))] λv6=>
xU h2 32 [(iI 0),(iI 0),(iI 0),(iI 0),(uU 0)] 2 [(0,5,v5),(5,5,v6)] λv7 h8=>
zh [.nils] [(0,1,v7)] λv9=>
jF c (.fn 6 [] []) [(iI 0),v4,v9] h8 λv10 h11=>
pEq .ptr false v1 .nilp λv12=>
zb (α :=u4_0→AH→R) (λs13 h14=>
xh s13.2.1 (.bool true) s13.1 λv16=>
zW v16 (
some ((.bool false),h14)) (
zh [(iI 0),(iI 0),(uU 0),(uU 0),(uU 0),(.bool false),(iI 0),(uU 0),(.bool false),(iI 0)] [(0,1,(iI 9)),(3,1,(uU 1))] λv17=>
zh [(iI 0),(iI 0),(uU 0),(uU 0),(uU 0),(.bool false),(iI 0),(uU 0),(.bool false),(iI 0)] [(0,1,(iI 6))] λv18=>
zh [(iI 0),(iI 0),(uU 0),(uU 0),(uU 0),(.bool false),(iI 0),(uU 0),(.bool false),(iI 0)] [(0,1,(iI 9)),(3,1,(uU 6))] λv19=>
zh [(iI 0),(iI 0),(uU 0),(uU 0),(uU 0),(.bool false),(iI 0),(uU 0),(.bool false),(iI 0)] [(0,1,(iI 9))] λv20=>
xU h14 42 [(iI 0),(iI 0),(uU 0),(uU 0),(uU 0),(.bool false),(iI 0),(uU 0),(.bool false),(iI 0)] 4 [(0,10,v17),(10,10,v18),(20,10,v19),(30,10,v20)] λv21 h22=>
Q6 (σ :=u4_0) NN (λi26 s23 h24 d25=>
kV s23.2.1 λv27=>
jD .lss s23.1 v27 λv28=>
zW v28 (
jF c (.fn 7 [] []) [s23.2.2.1] h24 λv29 h30=>
ji v29 0 λv31=>
ji v29 1 λv32=>
vq h30 42 (.agg [(iI 0),(iI 0),(uU 0),(uU 0),(uU 0),(.bool false),(iI 0),(uU 0),(.bool false),(iI 0)]) λv33 h34=>
jv h34 v33 v31 10 λh35=>
pUn .not v32 λv36=>
zb (α :=u7_0→AH→R) (λs37 h38=>
xh s37.2.1 (.bool true) s37.1 λv40=>
zb (α :=u7_0→AH→R) (λs41 h42=>
xh s41.2.1 (.bool true) s41.1 λv44=>
zW v44 (
zS d25 h42 λh45=>
some ((.bool false),h45)) (
jt h42 s41.2.2.1 10 λv46=>
jF c (.fn 9 [] []) [s41.2.2.2.2.2.2.1,v46] h42 λv47 h48=>
jF c (.fn 8 [] []) [s41.2.2.2.2.2.1,v47] h48 λ_ h50=>
jD .add s41.2.2.2.1 (iI 1) λv51=>
i26 (v51,s41.2.2.2.2.1,s41.2.2.2.2.2.1,s41.2.2.2.2.2.2.1,()) h50 d25)) λj43=>
xi v40 false (
jF c (.fn 15 [] []) [s37.2.2.2.2.2.1] h38 λv52 h53=>
jD .neq v52 (iI 0) λv54=>
j43 (v54,v40,s37.2.2.1,s37.2.2.2.1,s37.2.2.2.2.1,s37.2.2.2.2.2.1,s37.2.2.2.2.2.2.1,()) h53) (
j43 (.undef,v40,s37.2.2.1,s37.2.2.2.1,s37.2.2.2.2.1,s37.2.2.2.2.2.1,s37.2.2.2.2.2.2.1,()) h38)) λj39=>
xi v36 false (
jt h35 v33 10 λv55=>
vv s23.2.1 s23.1 10 λv56=>
jt h35 v56 10 λv57=>
XQ [.bas .int 0,.bas .int 1,.bas .int 2,.bas .int 3,.len 7,.bas .int 4,.bas .bool 5,.bas .int 6,.len 10,.bas .int 7,.bas .bool 8,.bas .int 9] true v55 v57 λv58=>
j39 (v58,v36,v33,s23.1,s23.2.1,s23.2.2.1,s23.2.2.2.1,()) h35) (
j39 (.undef,v36,v33,s23.1,s23.2.1,s23.2.2.1,s23.2.2.2.1,()) h35)) (
jF c (.fn 16 [] []) [s23.2.2.1] h24 λv59 h60=>
ji v59 0 λv61=>
ji v59 1 λv62=>
jF c (.fn 7 [] []) [s23.2.2.1] h60 λv63 h64=>
ji v63 0 λv65=>
ji v63 1 λv66=>
vq h64 42 (.agg [(iI 0),(iI 0),(uU 0),(uU 0),(uU 0),(.bool false),(iI 0),(uU 0),(.bool false),(iI 0)]) λv67 h68=>
jv h68 v67 v65 10 λh69=>
pUn .not v66 λv70=>
zb (α :=u4_0→AH→R) (λs71 h72=>
xh s71.2.1 s71.1 (.bool false) λv74=>
zb (α :=u3_0→AH→R) (λs75 h76=>
xh s75.2.1 s75.1 (.bool false) λv78=>
zb (α :=u3_0→AH→R) (λs79 h80=>
xh s79.2.1 s79.1 (.bool false) λv82=>
zb (α :=u3_0→AH→R) (λs83 h84=>
xh s83.2.1 s83.1 (.bool false) λv86=>
zb (α :=u3_0→AH→R) (λs87 h88=>
xh s87.2.1 s87.1 (.bool false) λv90=>
zb (α :=u3_0→AH→R) (λs91 h92=>
xh s91.2.1 s91.1 (.bool false) λv94=>
zb (α :=u3_0→AH→R) (λs95 h96=>
xh s95.2.1 s95.1 (.bool false) λv98=>
zb (α :=AV×AV×Unit→AH→R) (λs99 h100=>
xh s99.2.1 s99.1 (.bool false) λv102=>
zS d25 h100 λh103=>
some (v102,h103)) λj101=>
xi v98 true (
jF c (.fn 21 [] []) [s95.2.2.1] h96 λv104 h105=>
pUn .not v104 λv106=>
j101 (v106,v98,()) h105) (
j101 (.undef,v98,()) h96)) λj97=>
xi v94 true (
jF c (.fn 20 [] []) [s91.2.2.1] h92 λv107 h108=>
pUn .not v107 λv109=>
j97 (v109,v94,s91.2.2.1,()) h108) (
j97 (.undef,v94,s91.2.2.1,()) h92)) λj93=>
xi v90 true (
jF c (.fn 19 [] []) [s87.2.2.1] h88 λv110 h111=>
jD .eql v110 (.int .i64 (.negSucc 0)) λv112=>
j93 (v112,v90,s87.2.2.1,()) h111) (
j93 (.undef,v90,s87.2.2.1,()) h88)) λj89=>
xi v86 true (
jF c (.fn 18 [] []) [s83.2.2.1] h84 λv113 h114=>
Uf .eql v113 (.str [51]) λv115=>
j89 (v115,v86,s83.2.2.1,()) h114) (
j89 (.undef,v86,s83.2.2.1,()) h84)) λj85=>
xi v82 true (
jF c (.fn 17 [] []) [s79.2.2.1] h80 λv116 h117=>
jD .eql v116 (uU 5) λv118=>
j85 (v118,v82,s79.2.2.1,()) h117) (
j85 (.undef,v82,s79.2.2.1,()) h80)) λj81=>
xi v78 true (
jF c (.fn 15 [] []) [s75.2.2.1] h76 λv119 h120=>
jD .eql v119 (iI 2) λv121=>
j81 (v121,v78,s75.2.2.1,()) h120) (
j81 (.undef,v78,s75.2.2.1,()) h76)) λj77=>
xi v74 true (
jD .eql s71.2.2.1 (uU 5) λv122=>
j77 (v122,v74,s71.2.2.2.1,()) h72) (
j77 (.undef,v74,s71.2.2.2.1,()) h72)) λj73=>
xi v70 true (
j73 (v62,v70,v61,s23.2.2.1,()) h69) (
j73 (.undef,v70,v61,s23.2.2.1,()) h69))) ((iI 0),v21,s13.2.2.1,s13.2.2.2.1,()) h22 [])) λj15=>
xi v12 false (
pEq .ptr false v10 .nilp λv123=>
j15 (v123,v12,v10,v1,()) h11) (
j15 (.undef,v12,v10,v1,()) h11)
def W4 : WF :=w_0 S4
theorem W4_ok : WOk Tryz.prog 4 W4 :=qK1 (pl :=P4) λ_ _=>by kernel_rfl
def P5 : Pl :=(.n none .z (.n none .z (.n none (.r [[2]]) .z)))
def S5 : tE1 Tryz.prog P5 5 :=λ_ _ _=>.mk _
def P6 : Pl :=.z
def S6 : tE3 Tryz.prog P6 6 :=λ_ _ _ _ _=>.mk _
def P7 : Pl :=.z
def S7 (c : CV) (a0 : AV) (h : AH) : R :=
vq h 42 (.agg [(iI 0),(iI 0),(uU 0),(uU 0),(uU 0),(.bool false),(iI 0),(uU 0),(.bool false),(iI 0)]) λv0 h1=>
z7 a0 λv2=>
ql v2 14 λv3=>
jJ h1 v3 λv4=>
jD .eql v4 (iI 0) λv5=>
zW v5 (
z7 a0 λv6=>
ql v6 0 λv7=>
jJ h1 v7 λv8=>
zh [(iI 0),(iI 0),(uU 0),(uU 0),(uU 0),(.bool false),(iI 0),(uU 0),(.bool false),(iI 0)] [(0,1,(iI 9)),(1,1,v8),(3,1,(uU 1))] λv9=>
jv h1 v0 v9 10 λh10=>
jt h10 v0 10 λv11=>
some ((.tup [v11,(.bool true)]),h10)) (
jD .eql v4 (iI 1) λv12=>
zW v12 (
zh [(iI 0),(iI 0),(uU 0),(uU 0),(uU 0),(.bool false),(iI 0),(uU 0),(.bool false),(iI 0)] [(0,1,(iI 6))] λv13=>
jv h1 v0 v13 10 λh14=>
jt h14 v0 10 λv15=>
some ((.tup [v15,(.bool true)]),h14)) (
jD .eql v4 (iI 2) λv16=>
zW v16 (
z7 a0 λv17=>
ql v17 0 λv18=>
jJ h1 v18 λv19=>
z7 a0 λv20=>
ql v20 21 λv21=>
jJ h1 v21 λv22=>
jD .add v22 (uU 1) λv23=>
zh [(iI 0),(iI 0),(uU 0),(uU 0),(uU 0),(.bool false),(iI 0),(uU 0),(.bool false),(iI 0)] [(0,1,(iI 9)),(1,1,v19),(3,1,v23)] λv24=>
jv h1 v0 v24 10 λh25=>
jt h25 v0 10 λv26=>
some ((.tup [v26,(.bool true)]),h25)) (
jD .eql v4 (iI 7) λv27=>
zW v27 (
z7 a0 λv28=>
ql v28 0 λv29=>
jJ h1 v29 λv30=>
zh [(iI 0),(iI 0),(uU 0),(uU 0),(uU 0),(.bool false),(iI 0),(uU 0),(.bool false),(iI 0)] [(0,1,(iI 9)),(1,1,v30)] λv31=>
jv h1 v0 v31 10 λh32=>
jt h32 v0 10 λv33=>
some ((.tup [v33,(.bool true)]),h32)) (
jD .eql v4 (iI 8) λv34=>
zW v34 (
zh [(iI 0),(iI 0),(uU 0),(uU 0),(uU 0),(.bool false),(iI 0),(uU 0),(.bool false),(iI 0)] [] λv35=>
jv h1 v0 v35 10 λh36=>
jt h36 v0 10 λv37=>
some ((.tup [v37,(.bool false)]),h36)) (
z7 a0 λv38=>
ql v38 15 λv39=>
jJ h1 v39 λv40=>
xm c [(36,7),(38,13),(88,315),(89,323),(90,326),(316,260)] v40 [] h1 λv41 h42=>
ji v41 0 λv43=>
ji v41 1 λv44=>
jv h42 v0 v43 10 λh45=>
jt h45 v0 10 λv46=>
some ((.tup [v46,v44]),h45))))))
def W7 : WF :=w_1 S7
theorem W7_ok : WOk Tryz.prog 7 W7 :=Xb (pl :=P7) λ_ _ _=>by kernel_rfl
def P8 : Pl :=(.n none .z (.n none .z (.n none .z (.n none .z (.n (some []) (.n none .z (.n none .z (.n none .z (.n none (.n none (.r [[0]]) .z) .z)))) .z)))))
def S8 (c : CV) (a0 a1 : AV) (h : AH) : R :=
vq h 48 a1 λv0 h1=>
z7 a0 λv2=>
ql v2 14 λv3=>
jJ h1 v3 λv4=>
jD .eql v4 (iI 8) λv5=>
zW v5 (
some ((.tup []),h1)) (
ql v0 5 λv6=>
jJ h1 v6 λv7=>
jD .neq v7 (iI 0) λv8=>
zW v8 (
ql v0 5 λv9=>
jJ h1 v9 λv10=>
jF c (.fn 29 [] []) [a0,(iI 4),v10,(.int .i64 (.negSucc 0))] h1 λ_ h12=>
z7 a0 λv13=>
ql v13 14 λv14=>
jv h12 v14 (iI 8) 1 λh15=>
some ((.tup []),h15)) (
z7 a0 λv16=>
ql v16 14 λv17=>
jJ h1 v17 λv18=>
zb (α :=Unit→AH→List Nat→R) (λ_ h20 d21=>
zS d21 h20 λh23=>
some ((.tup []),h23)) λj22=>
jD .eql v18 (iI 0) λv24=>
zW v24 (
z7 a0 λv25=>
ql v25 14 λv26=>
jv h1 v26 (iI 1) 1 λh27=>
j22 (()) h27 []) (
jD .eql v18 (iI 1) λv28=>
zW v28 (
zb (α :=AV×Unit→AH→R) (λs29 h30=>
z7 s29.1 λv32=>
ql v32 14 λv33=>
jv h30 v33 (iI 2) 1 λh34=>
j22 (()) h34 []) λj31=>
ql v0 0 λv35=>
jJ h1 v35 λv36=>
ql v0 0 λv37=>
jJ h1 v37 λv38=>
z7 a0 λv39=>
ql v39 19 λv40=>
jv h1 v40 (.bool true) 1 λh41=>
z7 a0 λv42=>
ql v42 20 λv43=>
jv h41 v43 v36 1 λh44=>
z7 a0 λv45=>
ql v45 21 λv46=>
jv h44 v46 v38 1 λh47=>
XM v37 none v38 h41 h44 h1.nx<|
XM v37 none v38 h1 h41 h1.nx<|
XM v35 none v36 h1 h41 h1.nx<|
j31 (a0,()) h47) (
jD .eql v18 (iI 2) λv48=>
zW v48 (
jF c (.fn 30 [] []) [a0] h1 λ_ h50=>
j22 (()) h50 []) (
jD .eql v18 (iI 7) λv51=>
zW v51 (
z7 a0 λv52=>
ql v52 14 λv53=>
jv h1 v53 (iI 8) 1 λh54=>
j22 (()) h54 []) (
z7 a0 λv55=>
ql v55 15 λv56=>
jJ h1 v56 λv57=>
jt h1 v0 6 λv58=>
xm c [(36,8),(38,12),(88,316),(89,324),(90,327)] v57 [v58] h1 λ_ h60=>
jF c (.fn 31 [] []) [a0] h60 λ_ h62=>
j22 (()) h62 []))))))
def W8 : WF :=w_2 S8
theorem W8_ok : WOk Tryz.prog 8 W8 :=Nt (pl :=P8) λ_ _ _ _=>by kernel_rfl
def P9 : Pl :=(.n none .z (.n none .z (.n (some [5,4]) .z .z)))
def S9 : tE2 Tryz.prog P9 9 :=λ_ _ _ _=>.mk _
def P10 : Pl :=(.n none .z (.n none .z (.n none .z (.n (some [15]) .z .z))))
def S10 : tE7 Tryz.prog P10 10 :=λ_ _ _ _ _ _ _ _ _=>.mk _
def P11 : Pl :=.z
def S11 : tE1 Tryz.prog P11 11 :=λ_ _ _=>.mk _
def P12 : Pl :=(.n none .z (.n none (.n none (.r [[15,10,3,0]]) .z) (.n none .z (.n (some []) (.n (some [62,20,3,0]) .z .z) .z))))
def S12 : tE2 Tryz.prog P12 12 :=λ_ _ _ _=>.mk _
def P13 : Pl :=.z
def S13 : tE1 Tryz.prog P13 13 :=λ_ _ _=>.mk _
def P14 : Pl :=.z
def S14 : tE1 Tryz.prog P14 14 :=λ_ _ _=>.mk _
def P15 : Pl :=.z
def S15 : tE1 Tryz.prog P15 15 :=λ_ _ _=>.mk _
def P16 : Pl :=.z
def S16 : tE1 Tryz.prog P16 16 :=λ_ _ _=>.mk _
def P17 : Pl :=.z
def S17 : tE1 Tryz.prog P17 17 :=λ_ _ _=>.mk _
def P18 : Pl :=(.n none .z (.n none (.n none (.r [[11,6,0]]) .z) .z))
def S18 : tE1 Tryz.prog P18 18 :=λ_ _ _=>.mk _
def P19 : Pl :=.z
def S19 : tE1 Tryz.prog P19 19 :=λ_ _ _=>.mk _
def P20 : Pl :=(.n none .z (.n none (.r [[13,8,0],[21,15,0],[27,21,15],[28,15]]) .z))
def S20 : tE1 Tryz.prog P20 20 :=λ_ _ _=>.mk _
def P21 : Pl :=(.n none .z (.n none (.r [[12,8]]) .z))
def S21 : tE1 Tryz.prog P21 21 :=λ_ _ _=>.mk _
def P22 : Pl :=.z
def S22 : tE1 Tryz.prog P22 22 :=λ_ _ _=>.mk _
def P23 : Pl :=.z
def S23 : tE1 Tryz.prog P23 23 :=λ_ _ _=>.mk _
def P24 : Pl :=.z
def S24 : tE2 Tryz.prog P24 24 :=λ_ _ _ _=>.mk _
def P25 : Pl :=.z
def S25 : tE1 Tryz.prog P25 25 :=λ_ _ _=>.mk _
def P26 : Pl :=.z
def S26 : tE1 Tryz.prog P26 26 :=λ_ _ _=>.mk _
def P27 : Pl :=(.n none .z (.n none .z (.n none (.r [[4]]) .z)))
def S27 : tE2 Tryz.prog P27 27 :=λ_ _ _ _=>.mk _
def P28 : Pl :=(.n none .z (.n none .z (.n none .z (.n none (.r [[6]]) .z))))
def S28 : tE3 Tryz.prog P28 28 :=λ_ _ _ _ _=>.mk _
def P29 : Pl :=.z
def S29 : tE4 Tryz.prog P29 29 :=λ_ _ _ _ _ _=>.mk _
def P30 : Pl :=(.n none .z (.n none .z (.n (some []) (.n none .z (.n none .z (.n none .z (.n none .z (.n none .z (.n none .z (.n none .z (.n none .z (.n none (.r [[0]]) .z))))))))) .z)))
def S30 : tE1 Tryz.prog P30 30 :=λ_ _ _=>.mk _
def P31 : Pl :=(.n none (.n none .z (.n (some [0]) .z .z)) .z)
def S31 (c : CV) (a0 : AV) (h : AH) : R :=
z7 a0 λv0=>
ql v0 15 λv1=>
jJ h v1 λv2=>
xm c [(36,15),(88,129),(89,134),(90,47),(182,80)] v2 [] h λv3 h4=>
zb (α :=AV×Unit→AH→List Nat→R) (λs5 h6 d7=>
jF c (.fn 20 [] []) [s5.1] h6 λv9 h10=>
zW v9 (
z7 s5.1 λv11=>
ql v11 18 λv12=>
jJ h10 v12 λv13=>
jF c (.fn 64 [] []) [v13] h10 λv14 h15=>
z7 s5.1 λv16=>
ql v16 21 λv17=>
jv h15 v17 v14 1 λh18=>
zS d7 h18 λh19=>
some ((.tup []),h19)) (
zS d7 h10 λh20=>
some ((.tup []),h20))) λj8=>
jD .eql v3 (iI 0) λv21=>
zW v21 (
j8 (a0,()) h4 []) (
jD .eql v3 (iI 5) λv22=>
zW v22 (
z7 a0 λv23=>
ql v23 15 λv24=>
jJ h4 v24 λv25=>
xm c [(36,19),(88,314),(89,322),(90,325),(182,317)] v25 [] h4 λv26 h27=>
jF c (.fn 29 [] []) [a0,(iI 5),(iI 0),v26] h27 λ_ h29=>
j8 (a0,()) h29 []) (
jF c (.fn 63 [] []) [a0] h4 λ_ h31=>
j8 (a0,()) h31 []))
def W31 : WF :=w_1 S31
theorem W31_ok : WOk Tryz.prog 31 W31 :=Xb (pl :=P31) λ_ _ _=>by kernel_rfl
def P32 : Pl :=(.n none .z (.n none .z (.n none (.n none .z (.n (some [5,4]) .z .z)) .z)))
def S32 : tE2 Tryz.prog P32 32 :=λ_ _ _ _=>.mk _
def P33 : Pl :=.z
def S33 : tE2 Tryz.prog P33 33 :=λ_ _ _ _=>.mk _
def P34 : Pl :=(.n none .z (.n none .z (.n none (.n none .z (.n none (.n (some [8,7,2,1,0]) (.n none .z (.n none (.n (some [8,7,2,1,0]) .z .z) .z)) .z) .z)) (.n none .z (.n none (.n none .z (.n none (.n (some [11,10,7]) (.n none .z (.n none (.n (some [11,10,7]) .z .z) .z)) .z) .z)) .z)))))
def S34 : tE3 Tryz.prog P34 34 :=λ_ _ _ _ _=>.mk _
def P35 : Pl :=.z
def S35 : tE1 Tryz.prog P35 35 :=λ_ _ _=>.mk _
def P36 : Pl :=(.n none .z (.n (some [3]) (.n none .z (.n none (.r [[3]]) .z)) .z))
def S36 : tE2 Tryz.prog P36 36 :=λ_ _ _ _=>.mk _
def P37 : Pl :=(.n none .z (.n none (.n none .z (.n none (.n none .z (.n none .z (.n none .z (.n none .z (.n (some []) .z .z))))) .z)) (.n none (.n none .z (.n none (.n (some []) .z .z) .z)) .z)))
def S37 : tE2 Tryz.prog P37 37 :=λ_ _ _ _=>.mk _
def P38 : Pl :=.z
def S38 : tE4 Tryz.prog P38 38 :=λ_ _ _ _ _ _=>.mk _
def P39 : Pl :=.z
def S39 : tE1 Tryz.prog P39 39 :=λ_ _ _=>.mk _
def P40 : Pl :=(.n none (.n none (.n (some [0]) .z .z) .z) .z)
def S40 : tE1 Tryz.prog P40 40 :=λ_ _ _=>.mk _
def P41 : Pl :=.z
def S41 : tE1 Tryz.prog P41 41 :=λ_ _ _=>.mk _
def P42 : Pl :=(.n none .z (.n none .z (.n none (.n none .z (.n none (.n (some [17,16,15,3,0]) .z .z) .z)) .z)))
def S42 : tE1 Tryz.prog P42 42 :=λ_ _ _=>.mk _
def P43 : Pl :=(.n none .z (.n none (.r [[8,6]]) .z))
def S43 : tE1 Tryz.prog P43 43 :=λ_ _ _=>.mk _
def P44 : Pl :=.z
def S44 : tE1 Tryz.prog P44 44 :=λ_ _ _=>.mk _
def P45 : Pl :=(.n none .z (.n none .z (.n none (.n none .z (.n none (.n (some [17,16,15,3]) .z .z) .z)) .z)))
def S45 (c : CV) (a0 : AV) (h : AH) : R :=
z7 a0 λv0=>
ql v0 0 λv1=>
jJ h v1 λv2=>
kV v2 λv3=>
w7 h 9 [(.str [])] v3 v3 λv4 h5=>
z7 a0 λv6=>
ql v6 0 λv7=>
jJ h5 v7 λv8=>
kV v8 λv9=>
Q6 (σ :=u4_0) NN (λi13 s10 h11 d12=>
jD .lss s10.1 s10.2.1 λv14=>
zW v14 (
vv s10.2.2.1 s10.1 1 λv15=>
jJ h11 v15 λv16=>
jF c (.fn 78 [] []) [v16] h11 λv17 h18=>
vv s10.2.2.2.1 s10.1 1 λv19=>
jv h18 v19 v17 1 λh20=>
jD .add s10.1 (iI 1) λv21=>
i13 (v21,s10.2.1,s10.2.2.1,s10.2.2.2.1,()) h20 d12) (
jF c (.fn 79 [] []) [s10.2.2.2.1,(.str [32])] h11 λv22 h23=>
zS d12 h23 λh24=>
some (v22,h24))) ((iI 0),v9,v8,v4,()) h5 []
def W45 : WF :=w_1 S45
theorem W45_ok : WOk Tryz.prog 45 W45 :=Xb (pl :=P45) λ_ _ _=>by kernel_rfl
def P46 : Pl :=(.n none .z (.n none (.r [[10,7]]) .z))
def S46 : tE1 Tryz.prog P46 46 :=λ_ _ _=>.mk _
def P47 : Pl :=.z
def S47 : tE1 Tryz.prog P47 47 :=λ_ _ _=>.mk _
def P48 : Pl :=.z
def S48 : tE2 Tryz.prog P48 48 :=λ_ _ _ _=>.mk _
def P49 : Pl :=(.n none .z (.n none (.r [[2]]) .z))
def S49 : tE1 Tryz.prog P49 49 :=λ_ _ _=>.mk _
def P50 : Pl :=.z
def S50 : tE2 Tryz.prog P50 50 :=λ_ _ _ _=>.mk _
def P51 : Pl :=.z
def S51 : tE1 Tryz.prog P51 51 :=λ_ _ _=>.mk _
def P52 : Pl :=(.n none .z (.n none (.n none (.r [[16,12,1]]) .z) (.n none .z (.n none (.n none .z (.n none (.n (some [21,20,19,4,1]) .z .z) .z)) (.n none .z (.n none (.r [[3,2]]) .z))))))
def S52 : tE1 Tryz.prog P52 52 :=λ_ _ _=>.mk _
def P53 : Pl :=(.n none .z (.n none .z (.n none .z (.n none .z (.n none (.n none .z (.n none (.n (some [27,26,6,5,1]) .z .z) .z)) (.n none (.n none .z (.n none (.n (some [37,36,35,6,5,1]) (.n none .z (.n none .z (.n none (.n (some [37,36,35,6,5,1]) .z .z) .z))) .z) .z)) (.n none (.n none .z (.n none (.n (some [57,56,55,6,5]) (.n none .z (.n none .z (.n none (.n (some [57,56,55,6,5]) .z .z) .z))) .z) .z)) .z)))))))
def S53 : tE1 Tryz.prog P53 53 :=λ_ _ _=>.mk _
def P54 : Pl :=.z
def S54 : tE0 Tryz.prog P54 54 :=λ_ _=>.mk _
def P55 : Pl :=(.n none .z (.n none (.n none .z (.n none (.n none (.r [[3,2]]) .z) .z)) (.n none (.n none (.n (some [0]) .z .z) .z) .z)))
def S55 : tE1 Tryz.prog P55 55 :=λ_ _ _=>.mk _
def P56 : Pl :=(.n none (.r [[0]]) .z)
def S56 : tE2 Tryz.prog P56 56 :=λ_ _ _ _=>.mk _
def P57 : Pl :=.z
def S57 : tE1 Tryz.prog P57 57 :=λ_ _ _=>.mk _
def P58 : Pl :=(.n none (.r [[1,0]]) .z)
def S58 : tE2 Tryz.prog P58 58 :=λ_ _ _ _=>.mk _
def P59 : Pl :=.z
def S59 : tE1 Tryz.prog P59 59 :=λ_ _ _=>.mk _
def P60 : Pl :=.z
def S60 : tE7 Tryz.prog P60 60 :=λ_ _ _ _ _ _ _ _ _=>.mk _
def P61 : Pl :=.z
def S61 : tE1 Tryz.prog P61 61 :=λ_ _ _=>.mk _
def P62 : Pl :=.z
def S62 : tE3 Tryz.prog P62 62 :=λ_ _ _ _ _=>.mk _
def P63 : Pl :=(.n none .z (.n (some []) (.n none .z (.n none .z (.n none .z (.n none .z (.n none .z (.n none .z (.n none .z (.n none (.r [[]]) .z)))))))) .z))
def S63 : tE1 Tryz.prog P63 63 :=λ_ _ _=>.mk _
def P64 : Pl :=.z
def S64 : tE1 Tryz.prog P64 64 :=λ_ _ _=>.mk _
def P65 : Pl :=.z
def S65 : tE2 Tryz.prog P65 65 :=λ_ _ _ _=>.mk _
def P66 : Pl :=.z
def S66 : tE3 Tryz.prog P66 66 :=λ_ _ _ _ _=>.mk _
def P67 : Pl :=.z
def S67 : tE2 Tryz.prog P67 67 :=λ_ _ _ _=>.mk _
def P68 : Pl :=.z
def S68 (c : CV) (a0 a1 a2 a3 : AV) (h : AH) : R :=
vq h 40 a2 λv0 h1=>
vq h1 40 a3 λv2 h3=>
jt h3 v2 3 λv4=>
jF c (.fn 105 [] []) [a0,a1,v4] h3 λv5 h6=>
jD .neq v5 (iI 0) λv7=>
zW v7 (
some ((.tup [(.bool false),v5]),h6)) (
z7 a0 λv8=>
ql v8 0 λv9=>
jJ h6 v9 λv10=>
vv v10 a1 3 λv11=>
jt h6 v11 3 λv12=>
jt h6 v0 3 λv13=>
XQ [.bas .int 0,.bas .bool 1,.bas .int 2] true v12 v13 λv14=>
zW v14 (
some ((.tup [(.bool false),(iI 0)]),h6)) (
z7 a0 λv15=>
ql v15 0 λv16=>
jJ h6 v16 λv17=>
jt h6 v2 3 λv18=>
vv v17 a1 3 λv19=>
jv h6 v19 v18 3 λh20=>
some ((.tup [(.bool true),(iI 0)]),h20)))
def W68 : WF :=w_4 S68
theorem W68_ok : WOk Tryz.prog 68 W68 :=qYt (pl :=P68) λ_ _ _ _ _ _=>by kernel_rfl
def P69 : Pl :=(.n none .z (.n none .z (.n (some [7]) .z .z)))
def S69 : tE3 Tryz.prog P69 69 :=λ_ _ _ _ _=>.mk _
def P70 : Pl :=.z
def S70 : tE3 Tryz.prog P70 70 :=λ_ _ _ _ _=>.mk _
def P71 : Pl :=.z
def S71 : tE2 Tryz.prog P71 71 :=λ_ _ _ _=>.mk _
def P72 : Pl :=.z
def S72 : tE3 Tryz.prog P72 72 :=λ_ _ _ _ _=>.mk _
def P73 : Pl :=.z
def S73 : tE3 Tryz.prog P73 73 :=λ_ _ _ _ _=>.mk _
def P74 : Pl :=.z
def S74 : tE3 Tryz.prog P74 74 :=λ_ _ _ _ _=>.mk _
def P75 : Pl :=(.n none .z (.n none .z (.n none .z (.n none (.r [[]]) .z))))
def S75 : tE2 Tryz.prog P75 75 :=λ_ _ _ _=>.mk _
def P76 : Pl :=(.n none .z (.n none (.n none .z (.n none (.n (some [6,1,0]) .z .z) .z)) .z))
def S76 : tE2 Tryz.prog P76 76 :=λ_ _ _ _=>.mk _
def P77 : Pl :=.z
def S77 : tE1 Tryz.prog P77 77 :=λ_ _ _=>.mk _
def P78 : Pl :=.z
def S78 (c : CV) (a0 : AV) (h : AH) : R :=
yZ 24 (uU 0) a0 λv0=>
ji v0 1 λv1=>
ji v0 0 λv2=>
zW v1 (
jF c (.fn 108 [] []) [v2,(iI 10)] h λv3 h4=>
some (v3,h4)) (
yZ 4 (.bool false) a0 λv5=>
ji v5 1 λv6=>
ji v5 0 λv7=>
zW v6 (
zW v7 (
some ((.str [121,101,115]),h)) (
some ((.str [110,111]),h))) (
some ((.str [110,111,110,101]),h)))
def W78 : WF :=w_1 S78
theorem W78_ok : WOk Tryz.prog 78 W78 :=Xb (pl :=P78) λ_ _ _=>by kernel_rfl
def P80 : Pl :=.z
def S80 : tE1 Tryz.prog P80 80 :=λ_ _ _=>.mk _
def P81 : Pl :=.z
def S81 : tE1 Tryz.prog P81 81 :=λ_ _ _=>.mk _
def P82 : Pl :=(.n none .z (.n none (.n none (.n none .z (.n none .z (.n none (.r [[11,5,3,1]]) (.n none .z (.n none (.r [[33,29,5,1]]) (.n none .z (.n none (.r [[42,39]]) .z))))))) .z) .z))
def S82 : tE3 Tryz.prog P82 82 :=λ_ _ _ _ _=>.mk _
def P83 : Pl :=(.n none .z (.n (some [2,1,0]) .z (.n (some [0]) (.n none (.r [[19,17,1,0]]) .z) .z)))
def S83 : tE3 Tryz.prog P83 83 :=λ_ _ _ _ _=>.mk _
def P84 : Pl :=.z
def S84 : tE1 Tryz.prog P84 84 :=λ_ _ _=>.mk _
def P85 : Pl :=(.n none .z (.n none (.n none .z (.n none (.n (some [11,10,9,2,1]) (.n none .z (.n none .z (.n none (.n (some [11,10,9,2,1]) (.n none .z (.n none .z (.n none (.r [[33,26,11,10,9,7,6,2,1],[38,33,26,11,10,9,7,6,2,1],[39,26,11,10,9,7,6,2,1],[48,41,11,10,9,7,6,2,1],[58,48,41,11,10,9,6,2,1],[59,41,11,10,9,6,2,1]]) .z))) .z) .z))) .z) .z)) .z))
def S85 : tE2 Tryz.prog P85 85 :=λ_ _ _ _=>.mk _
def P86 : Pl :=(.n none .z (.n none .z (.n none .z (.n none (.n none .z (.n none (.n (some [14,13,12,4,3]) .z .z) .z)) .z))))
def S86 : tE1 Tryz.prog P86 86 :=λ_ _ _=>.mk _
def P87 : Pl :=.z
def S87 : tE1 Tryz.prog P87 87 :=λ_ _ _=>.mk _
def P88 : Pl :=(.n none .z (.n none (.n none (.n (some [0]) (.n none .z (.n (some [0]) (.n none .z (.n none .z (.n none .z (.n none .z (.n (some [0]) .z .z))))) .z)) .z) .z) .z))
def S88 : tE1 Tryz.prog P88 88 :=λ_ _ _=>.mk _
def P89 : Pl :=.z
def S89 : tE1 Tryz.prog P89 89 :=λ_ _ _=>.mk _
def P90 : Pl :=(.n none .z (.n none .z (.n (some [7,5,1,0]) (.n none (.r [[19,18,7,5,1,0]]) .z) .z)))
def S90 : tE2 Tryz.prog P90 90 :=λ_ _ _ _=>.mk _
def P91 : Pl :=.z
def S91 : tE5 Tryz.prog P91 91 :=λ_ _ _ _ _ _ _=>.mk _
def P92 : Pl :=.z
def S92 : tE3 Tryz.prog P92 92 :=λ_ _ _ _ _=>.mk _
def P93 : Pl :=.z
def S93 : tE3 Tryz.prog P93 93 :=λ_ _ _ _ _=>.mk _
def P94 : Pl :=(.n none .z (.n none .z (.n none (.n none .z (.n none (.n (some [3]) .z .z) .z)) .z)))
def S94 (c : CV) (a0 : AV) (h : AH) : R :=
vq h 53 .nils λv0 h1=>
z7 a0 λv2=>
ql v2 1 λv3=>
jJ h1 v3 λv4=>
jF c (.fn 123 [] []) [v4] h1 λv5 h6=>
Qz c v5 [.yield (h6.new .dfd).nx] ((h6.new .dfd).new (.loop .ready none 94 [1,1,0,1,0] [3] [v0] h6.nx)) λ_ h7=>
ym h7 (h6.new .dfd).nx λp9 h8=>
Q7 p9 (
jJ h8 v0 λv10=>
zS (h6.nx::[]) h8 λh11=>
some (v10,h11))<|
none
def W94 : WF :=w_1 S94
theorem W94_ok : WOk Tryz.prog 94 W94 :=Xb (pl :=P94) λ_ _ _=>by kernel_rfl
def P95 : Pl :=.z
def S95 : tE2 Tryz.prog P95 95 :=λ_ _ _ _=>.mk _
def P96 : Pl :=.z
def S96 : tE1 Tryz.prog P96 96 :=λ_ _ _=>.mk _
def P97 : Pl :=.z
def S97 : tE1 Tryz.prog P97 97 :=λ_ _ _=>.mk _
def P98 : Pl :=(.n none .z (.n none .z (.n none (.n none .z (.n none (.n (some [13,12,11,7,2,1]) (.n none .z (.n none .z (.n none (.n (some [13,12,11,7,2,1]) .z .z) .z))) .z) .z)) .z)))
def S98 : tE3 Tryz.prog P98 98 :=λ_ _ _ _ _=>.mk _
def P99 : Pl :=.z
def S99 : tE1 Tryz.prog P99 99 :=λ_ _ _=>.mk _
def P100 : Pl :=(.n none .z (.n none (.r [[2,0]]) (.n none .z (.n (some []) (.n none .z (.n none (.n none (.r [[0]]) .z) .z)) .z))))
def S100 : tE1 Tryz.prog P100 100 :=λ_ _ _=>.mk _
def P101 : Pl :=.z
def S101 : tE1 Tryz.prog P101 101 :=λ_ _ _=>.mk _
def P102 : Pl :=.z
def S102 : tE1 Tryz.prog P102 102 :=λ_ _ _=>.mk _
def P103 : Pl :=(.n none .z (.n none (.r [[14,7]]) .z))
def S103 : tE2 Tryz.prog P103 103 :=λ_ _ _ _=>.mk _
def P104 : Pl :=(.n none .z (.n none (.r [[14,7]]) .z))
def S104 : tE2 Tryz.prog P104 104 :=λ_ _ _ _=>.mk _
def P105 : Pl :=.z
def S105 : tE3 Tryz.prog P105 105 :=λ_ _ _ _ _=>.mk _
def P106 : Pl :=(.n none .z (.n none (.r [[14,7]]) .z))
def S106 : tE2 Tryz.prog P106 106 :=λ_ _ _ _=>.mk _
def P107 : Pl :=.z
def S107 : tE1 Tryz.prog P107 107 :=λ_ _ _=>.mk _
def P108 : Pl :=.z
def S108 : tE2 Tryz.prog P108 108 :=λ_ _ _ _=>.mk _
def P112 : Pl :=.z
def S112 : tE0 Tryz.prog P112 112 :=λ_ _=>.mk _
def P113 : Pl :=(.n none .z (.n none .z (.n none (.r [[21,17,5,4,1],[27,23,5,1],[33,29,1],[39,35,1],[42,39,35],[43,35]]) .z)))
def S113 : tE1 Tryz.prog P113 113 :=λ_ _ _=>.mk _
def P114 : Pl :=(.n none .z (.n none .z (.n none (.r [[4]]) .z)))
def S114 : tE2 Tryz.prog P114 114 :=λ_ _ _ _=>.mk _
def P115 : Pl :=(.n none .z (.n none (.r [[7,5]]) .z))
def S115 : tE1 Tryz.prog P115 115 :=λ_ _ _=>.mk _
def P116 : Pl :=(.n none .z (.n none (.r [[7,5]]) .z))
def S116 : tE1 Tryz.prog P116 116 :=λ_ _ _=>.mk _
def P117 : Pl :=.z
def S117 : tE2 Tryz.prog P117 117 :=λ_ _ _ _=>.mk _
def P118 : Pl :=(.n none .z (.n none .z (.n none (.n none .z (.n (some []) (.n none .z (.n none .z (.n none .z (.n none .z (.n none .z (.n none .z (.n none .z (.n none .z (.n none .z (.n none .z (.n none .z (.n none .z (.n none .z (.n none .z (.n none .z (.n none .z (.n none .z (.n none .z (.n none .z (.n none .z (.n none .z (.n none .z (.n none .z (.n none .z (.n (some [120,6,5,3,0]) .z .z))))))))))))))))))))))))) .z)) .z)))
def S118 : tE2 Tryz.prog P118 118 :=λ_ _ _ _=>.mk _
def P119 : Pl :=(.n none .z (.n none (.n none (.r [[17,13,1,0]]) .z) .z))
def S119 : tE2 Tryz.prog P119 119 :=λ_ _ _ _=>.mk _
def P120 : Pl :=.z
def S120 : tE2 Tryz.prog P120 120 :=λ_ _ _ _=>.mk _
def P121 : Pl :=.z
def S121 : tE1 Tryz.prog P121 121 :=λ_ _ _=>.mk _
def P122 : Pl :=(.n none .z (.n none (.n none .z (.n none (.n (some [9,8,7,1,0]) .z .z) .z)) .z))
def S122 : tE2 Tryz.prog P122 122 :=λ_ _ _ _=>.mk _
def P123 : Pl :=.z
def S123 : tE1 Tryz.prog P123 123 :=λ_ _ _=>.mk _
def P124 : Pl :=.z
def S124 : tE1 Tryz.prog P124 124 :=λ_ _ _=>.mk _
def P125 : Pl :=(.n none .z (.n none .z (.n none (.n none .z (.n none (.n (some [13,12,11,5,0]) .z .z) .z)) .z)))
def S125 : tE2 Tryz.prog P125 125 :=λ_ _ _ _=>.mk _
def P126 : Pl :=.z
def S126 : tE1 Tryz.prog P126 126 :=λ_ _ _=>.mk _
def P129 : Pl :=.z
def S129 : tE1 Tryz.prog P129 129 :=λ_ _ _=>.mk _
def P130 : Pl :=(.n none .z (.n none (.n none (.r [[13,10,3,0],[18,15,3,0]]) .z) .z))
def S130 : tE2 Tryz.prog P130 130 :=λ_ _ _ _=>.mk _
def P131 : Pl :=.z
def S131 : tE1 Tryz.prog P131 131 :=λ_ _ _=>.mk _
def P132 : Pl :=.z
def S132 : tE3 Tryz.prog P132 132 :=λ_ _ _ _ _=>.mk _
def P133 : Pl :=.z
def S133 : tE1 Tryz.prog P133 133 :=λ_ _ _=>.mk _
def P134 : Pl :=.z
def S134 : tE1 Tryz.prog P134 134 :=λ_ _ _=>.mk _
def P135 : Pl :=.z
def S135 : tE1 Tryz.prog P135 135 :=λ_ _ _=>.mk _
def P136 : Pl :=(.n none .z (.n none (.n none .z (.n none (.n none (.r [[11,8]]) .z) .z)) (.n none (.r [[19,16]]) .z)))
def S136 : tE1 Tryz.prog P136 136 :=λ_ _ _=>.mk _
def P137 : Pl :=.z
def S137 : tE2 Tryz.prog P137 137 :=λ_ _ _ _=>.mk _
def P140 : Pl :=(.n none .z (.n none .z (.n none (.n none .z (.n (some [4,3,2]) (.n (some [8,7,5,4,3,2]) .z (.n none .z (.n (some [13,7,5,4,3,2]) .z (.n none (.r [[4,3,2]]) (.n (some [18,7,5,4,3,2]) .z (.n none (.r [[4,3,2]]) (.n (some [27,7,5,4,3,2]) .z (.n none (.r [[4,3,2]]) .z)))))))) .z)) (.n none (.r [[4,3,2]]) .z))))
def S140 : tE1 Tryz.prog P140 140 :=λ_ _ _=>.mk _
def P141 : Pl :=.z
def S141 : tE1 Tryz.prog P141 141 :=λ_ _ _=>.mk _
def P142 : Pl :=(.n none .z (.n none (.r [[13,9]]) .z))
def S142 : tE2 Tryz.prog P142 142 :=λ_ _ _ _=>.mk _
def P143 : Pl :=.z
def S143 : tE1 Tryz.prog P143 143 :=λ_ _ _=>.mk _
def P144 : Pl :=.z
def S144 : tE2 Tryz.prog P144 144 :=λ_ _ _ _=>.mk _
def P145 : Pl :=(.n none .z (.n none .z (.n none (.n none .z (.n none (.n none .z (.n none (.n none (.r [[4]]) .z) (.n none .z (.n none (.n none (.r [[4]]) .z) (.n none .z (.n none (.n none (.r [[4]]) .z) (.n none .z (.n none (.n none (.r [[4]]) .z) (.n none .z (.n none (.n none (.r [[4]]) .z) (.n none .z (.n none (.n none (.r [[4]]) .z) (.n none .z (.n none .z (.n none .z (.n none .z (.n none .z (.n none (.n none (.r [[4]]) .z) (.n none .z (.n none (.n none (.r [[4]]) .z) (.n none .z (.n none (.n none (.r [[4]]) .z) .z)))))))))))))))))))))) .z)) .z)))
def S145 : tE2 Tryz.prog P145 145 :=λ_ _ _ _=>.mk _
def P146 : Pl :=(.n none .z (.n none (.n none .z (.n none (.n none .z (.n none (.n none .z (.n none .z (.n none .z (.n (some [10]) .z .z)))) (.n none .z (.n none .z (.n none .z (.n none (.n none .z (.n none .z (.n (some [15]) .z .z))) .z)))))) .z)) .z))
def S146 : tE4 Tryz.prog P146 146 :=λ_ _ _ _ _ _=>.mk _
def P147 : Pl :=(.n none .z (.n none (.n none .z (.n none (.n (some [7,6,3,0]) .z (.n none .z (.n (some [18,6,0]) .z .z))) .z)) .z))
def S147 : tE2 Tryz.prog P147 147 :=λ_ _ _ _=>.mk _
def P148 : Pl :=.z
def S148 : tE1 Tryz.prog P148 148 :=λ_ _ _=>.mk _
def P149 : Pl :=(.n none .z (.n none (.n none (.n none (.r [[9,7,0]]) (.n none .z (.n none (.r [[18,16,0]]) .z))) .z) .z))
def S149 : tE1 Tryz.prog P149 149 :=λ_ _ _=>.mk _
def P150 : Pl :=(.n none .z (.n none (.r [[14,7]]) .z))
def S150 : tE2 Tryz.prog P150 150 :=λ_ _ _ _=>.mk _
def P151 : Pl :=(.n none .z (.n none (.n none .z (.n none (.n (some [5,4,3]) .z .z) .z)) .z))
def S151 (c : CV) (a0 a1 : AV) (h : AH) : R :=
vq h 3 a1 λv0 h1=>
vq h1 24 (uU 0) λv2 h3=>
vq h3 4 (.bool false) λv4 h5=>
z7 a0 λv6=>
ql v6 1 λv7=>
jJ h5 v7 λv8=>
jF c (.fn 123 [] []) [v8] h5 λv9 h10=>
Qz c v9 [.yield (h10.new .dfd).nx] ((h10.new .dfd).new (.loop .ready none 151 [1,0,1,0] [5,4,3] [v4,v2,v0] h10.nx)) λ_ h11=>
ym h11 (h10.new .dfd).nx λp13 h12=>
Q7 p13 (
jv h12 v2 (uU 0) 1 λh14=>
jv h14 v4 (.bool false) 1 λh15=>
zS (h10.nx::[]) h15 λh16=>
jJ h16 v2 λv17=>
jJ h16 v4 λv18=>
some ((.tup [v17,v18]),h16))<|
pIs p13 .ret (
zS (h10.nx::[]) h12 λh19=>
jJ h19 v2 λv20=>
jJ h19 v4 λv21=>
some ((.tup [v20,v21]),h19))<|
none
def W151 : WF :=w_2 S151
theorem W151_ok : WOk Tryz.prog 151 W151 :=Nt (pl :=P151) λ_ _ _ _=>by kernel_rfl
def P152 : Pl :=(.n none .z (.n none .z (.n none .z (.n none (.n none .z (.n none (.n (some [20,19,18,5,0]) .z .z) .z)) .z))))
def S152 : tE2 Tryz.prog P152 152 :=λ_ _ _ _=>.mk _
def P153 : Pl :=(.n none .z (.n none (.n (some [3,1,0]) .z .z) .z))
def S153 : tE2 Tryz.prog P153 153 :=λ_ _ _ _=>.mk _
def P154 : Pl :=(.n none .z (.n none (.n none (.r [[12,10,2,1,0]]) .z) .z))
def S154 : tE3 Tryz.prog P154 154 :=λ_ _ _ _ _=>.mk _
def P157 : Pl :=(.n none .z (.n none (.n none .z (.n none (.n (some [13,12,11,1]) .z .z) .z)) .z))
def S157 : tE2 Tryz.prog P157 157 :=λ_ _ _ _=>.mk _
def P158 : Pl :=(.n none .z (.n none (.r [[7,5]]) .z))
def S158 : tE1 Tryz.prog P158 158 :=λ_ _ _=>.mk _
def P159 : Pl :=.z
def S159 (_ : CV) (a0 : AV) (h : AH) : R :=
jD .lss a0 (iI 10) λv0=>
zW v0 (
jD .add a0 (iI 1) λv1=>
gM (.str [48,49,50,51,52,53,54,55,56,57,97,98,99,100,101,102,103,104,105,106,107,108,109,110,111,112,113,114,115,116,117,118,119,120,121,122]) (some a0) (some v1) λv2=>
some (v2,h)) (
jD .mul a0 (iI 2) λv3=>
jD .mul a0 (iI 2) λv4=>
jD .add v4 (iI 2) λv5=>
gM (.str [48,48,48,49,48,50,48,51,48,52,48,53,48,54,48,55,48,56,48,57,49,48,49,49,49,50,49,51,49,52,49,53,49,54,49,55,49,56,49,57,50,48,50,49,50,50,50,51,50,52,50,53,50,54,50,55,50,56,50,57,51,48,51,49,51,50,51,51,51,52,51,53,51,54,51,55,51,56,51,57,52,48,52,49,52,50,52,51,52,52,52,53,52,54,52,55,52,56,52,57,53,48,53,49,53,50,53,51,53,52,53,53,53,54,53,55,53,56,53,57,54,48,54,49,54,50,54,51,54,52,54,53,54,54,54,55,54,56,54,57,55,48,55,49,55,50,55,51,55,52,55,53,55,54,55,55,55,56,55,57,56,48,56,49,56,50,56,51,56,52,56,53,56,54,56,55,56,56,56,57,57,48,57,49,57,50,57,51,57,52,57,53,57,54,57,55,57,56,57,57]) (some v3) (some v5) λv6=>
some (v6,h))
def W159 : WF :=w_1 S159
theorem W159_ok : WOk Tryz.prog 159 W159 :=Xb (pl :=P159) λ_ _ _=>by kernel_rfl
def P162 : Pl :=(.n none .z (.n (some [11,10,4,3,2,1,0]) (.n none (.r [[23,21,11,10,4,3,2,1,0],[27,25,11,10,4,3,2,1,0]]) .z) (.n none .z (.n none .z (.n (some [13,12,11,10,4,3,2,1,0]) .z (.n (some [13,12,11,10,4,3,0]) (.n none .z (.n none (.n none .z (.n none .z (.n none .z (.n none (.n none (.n (some [16,15,14,13,12,11,10,4,3,1,0]) .z .z) .z) .z)))) (.n none .z (.n none (.n none (.n (some [17,13,12,11,10,4,3,1,0]) .z .z) .z) .z)))) (.n (some [13,12,11,10,4,0]) .z .z)))))))
def S162 (c : CV) (a0 a1 a2 a3 a4 : AV) (h : AH) : R :=
zb (α :=u7_0→AH→List Nat→R) (λs0 h1 d2=>
vq h1 270 (.agg [(.int .u8 (.ofNat 0)),(.int .u8 (.ofNat 0)),(.int .u8 (.ofNat 0)),(.int .u8 (.ofNat 0)),(.int .u8 (.ofNat 0)),(.int .u8 (.ofNat 0)),(.int .u8 (.ofNat 0)),(.int .u8 (.ofNat 0)),(.int .u8 (.ofNat 0)),(.int .u8 (.ofNat 0)),(.int .u8 (.ofNat 0)),(.int .u8 (.ofNat 0)),(.int .u8 (.ofNat 0)),(.int .u8 (.ofNat 0)),(.int .u8 (.ofNat 0)),(.int .u8 (.ofNat 0)),(.int .u8 (.ofNat 0)),(.int .u8 (.ofNat 0)),(.int .u8 (.ofNat 0)),(.int .u8 (.ofNat 0)),(.int .u8 (.ofNat 0)),(.int .u8 (.ofNat 0)),(.int .u8 (.ofNat 0)),(.int .u8 (.ofNat 0)),(.int .u8 (.ofNat 0)),(.int .u8 (.ofNat 0)),(.int .u8 (.ofNat 0)),(.int .u8 (.ofNat 0)),(.int .u8 (.ofNat 0)),(.int .u8 (.ofNat 0)),(.int .u8 (.ofNat 0)),(.int .u8 (.ofNat 0)),(.int .u8 (.ofNat 0)),(.int .u8 (.ofNat 0)),(.int .u8 (.ofNat 0)),(.int .u8 (.ofNat 0)),(.int .u8 (.ofNat 0)),(.int .u8 (.ofNat 0)),(.int .u8 (.ofNat 0)),(.int .u8 (.ofNat 0)),(.int .u8 (.ofNat 0)),(.int .u8 (.ofNat 0)),(.int .u8 (.ofNat 0)),(.int .u8 (.ofNat 0)),(.int .u8 (.ofNat 0)),(.int .u8 (.ofNat 0)),(.int .u8 (.ofNat 0)),(.int .u8 (.ofNat 0)),(.int .u8 (.ofNat 0)),(.int .u8 (.ofNat 0)),(.int .u8 (.ofNat 0)),(.int .u8 (.ofNat 0)),(.int .u8 (.ofNat 0)),(.int .u8 (.ofNat 0)),(.int .u8 (.ofNat 0)),(.int .u8 (.ofNat 0)),(.int .u8 (.ofNat 0)),(.int .u8 (.ofNat 0)),(.int .u8 (.ofNat 0)),(.int .u8 (.ofNat 0)),(.int .u8 (.ofNat 0)),(.int .u8 (.ofNat 0)),(.int .u8 (.ofNat 0)),(.int .u8 (.ofNat 0)),(.int .u8 (.ofNat 0))]) λv4 h5=>
zb (α :=u9_0→AH→List Nat→R) (λs6 h7 d8=>
zb (α :=u7_0→AH→List Nat→R) (λs10 h11 d12=>
zb (α :=AV×AV×AV×AV×AV×AV×Unit→AH→List Nat→R) (λs14 h15 d16=>
zW s14.2.2.2.2.1 (
gc 65 1 s14.2.1 (some s14.1) none λv18=>
y0 h15 5 1 s14.2.2.2.2.2.1 v18 λv19 h20=>
zS d16 h20 λh21=>
some ((.tup [v19,s14.2.2.1]),h21)) (
gc 65 1 s14.2.1 (some s14.1) none λv22=>
UM h15 v22 λv23=>
zS d16 h15 λh24=>
some ((.tup [s14.2.2.2.1,v23]),h24))) λj17=>
zW s10.2.2.2.2.2.1 (
jD .sub s10.1 (iI 1) λv25=>
wR s10.2.1 v25 65 1 λv26=>
jv h11 v26 (.int .u8 (.ofNat 45)) 1 λh27=>
j17 (v25,s10.2.1,s10.2.2.1,s10.2.2.2.1,s10.2.2.2.2.1,s10.2.2.2.2.2.2.1,()) h27 d12) (
j17 (s10.1,s10.2.1,s10.2.2.1,s10.2.2.2.1,s10.2.2.2.2.1,s10.2.2.2.2.2.2.1,()) h11 d12)) λj13=>
jF c (.fn 209 [] []) [s6.2.2.2.2.2.2.1] h7 λv28 h29=>
zW v28 (
y6 .u64 s6.2.2.2.2.2.2.1 λv30=>
jF c (.fn 210 [] []) [v30] h29 λv31 h32=>
y6 .u64 v31 λv33=>
y6 .u64 s6.2.2.2.2.2.2.1 λv34=>
y6 .u64 s6.2.2.2.2.2.2.1 λv35=>
jD .sub v35 (uU 1) λv36=>
Q6 (σ :=AV×AV×AV×AV×AV×AV×AV×AV×AV×AV×AV×Unit) NN (λi40 s37 h38 d39=>
jD .geq s37.2.2.2.2.2.2.2.2.2.1 s37.2.1 λv41=>
zW v41 (
jD .sub s37.2.2.2.1 (iI 1) λv42=>
jD .and s37.2.2.2.2.2.2.2.2.2.1 s37.1 λv43=>
vI (.str [48,49,50,51,52,53,54,55,56,57,97,98,99,100,101,102,103,104,105,106,107,108,109,110,111,112,113,114,115,116,117,118,119,120,121,122]) v43 λv44=>
wR s37.2.2.2.2.1 v42 65 1 λv45=>
jv h38 v45 v44 1 λh46=>
gB .shr s37.2.2.2.2.2.2.2.2.2.1 s37.2.2.1 λv47=>
i40 (s37.1,s37.2.1,s37.2.2.1,v42,s37.2.2.2.2.1,s37.2.2.2.2.2.1,s37.2.2.2.2.2.2.1,s37.2.2.2.2.2.2.2.1,s37.2.2.2.2.2.2.2.2.1,v47,s37.2.2.2.2.2.2.2.2.2.2.1,()) h46 d39) (
jD .sub s37.2.2.2.1 (iI 1) λv48=>
vI (.str [48,49,50,51,52,53,54,55,56,57,97,98,99,100,101,102,103,104,105,106,107,108,109,110,111,112,113,114,115,116,117,118,119,120,121,122]) s37.2.2.2.2.2.2.2.2.2.1 λv49=>
wR s37.2.2.2.2.1 v48 65 1 λv50=>
jv h38 v50 v49 1 λh51=>
j13 (v48,s37.2.2.2.2.1,s37.2.2.2.2.2.1,s37.2.2.2.2.2.2.1,s37.2.2.2.2.2.2.2.1,s37.2.2.2.2.2.2.2.2.1,s37.2.2.2.2.2.2.2.2.2.2.1,()) h51 d39)) (v36,v34,v33,s6.1,s6.2.1,s6.2.2.1,s6.2.2.2.1,s6.2.2.2.2.1,s6.2.2.2.2.2.1,s6.2.2.2.2.2.2.2.1,s6.2.2.2.2.2.2.2.2.1,()) h32 d8) (
y6 .u64 s6.2.2.2.2.2.2.1 λv52=>
Q6 (σ :=u9_0) NN (λi56 s53 h54 d55=>
jD .geq s53.2.2.2.2.2.2.2.1 s53.1 λv57=>
zW v57 (
jD .sub s53.2.1 (iI 1) λv58=>
jD .quo s53.2.2.2.2.2.2.2.1 s53.1 λv59=>
jD .mul v59 s53.1 λv60=>
jD .sub s53.2.2.2.2.2.2.2.1 v60 λv61=>
vI (.str [48,49,50,51,52,53,54,55,56,57,97,98,99,100,101,102,103,104,105,106,107,108,109,110,111,112,113,114,115,116,117,118,119,120,121,122]) v61 λv62=>
wR s53.2.2.1 v58 65 1 λv63=>
jv h54 v63 v62 1 λh64=>
i56 (s53.1,v58,s53.2.2.1,s53.2.2.2.1,s53.2.2.2.2.1,s53.2.2.2.2.2.1,s53.2.2.2.2.2.2.1,v59,s53.2.2.2.2.2.2.2.2.1,()) h64 d55) (
jD .sub s53.2.1 (iI 1) λv65=>
vI (.str [48,49,50,51,52,53,54,55,56,57,97,98,99,100,101,102,103,104,105,106,107,108,109,110,111,112,113,114,115,116,117,118,119,120,121,122]) s53.2.2.2.2.2.2.2.1 λv66=>
wR s53.2.2.1 v65 65 1 λv67=>
jv h54 v67 v66 1 λh68=>
j13 (v65,s53.2.2.1,s53.2.2.2.1,s53.2.2.2.2.1,s53.2.2.2.2.2.1,s53.2.2.2.2.2.2.1,s53.2.2.2.2.2.2.2.2.1,()) h68 d55)) (v52,s6.1,s6.2.1,s6.2.2.1,s6.2.2.2.1,s6.2.2.2.2.1,s6.2.2.2.2.2.1,s6.2.2.2.2.2.2.2.1,s6.2.2.2.2.2.2.2.2.1,()) h29 d8)) λj9=>
zW s0.2.2.2.1 (
pUn .neg s0.2.2.2.2.2.1 λv69=>
j9 ((iI 65),v4,s0.1,s0.2.1,s0.2.2.1,s0.2.2.2.1,s0.2.2.2.2.1,v69,s0.2.2.2.2.2.2.1,()) h5 d2) (
j9 ((iI 65),v4,s0.1,s0.2.1,s0.2.2.1,s0.2.2.2.1,s0.2.2.2.2.1,s0.2.2.2.2.2.1,s0.2.2.2.2.2.2.1,()) h5 d2)) λj3=>
jD .lss a2 (iI 2) λv70=>
zb (α :=u9_0→AH→R) (λs71 h72=>
xh s71.2.1 (.bool true) s71.1 λv74=>
zb (α :=u9_0→AH→R) (λs75 h76=>
xh s75.2.1 (.bool true) s75.1 λv78=>
zW v78 (
none/-op-/) (
j3 (s75.2.2.1,s75.2.2.2.1,s75.2.2.2.2.1,s75.2.2.2.2.2.1,s75.2.2.2.2.2.2.1,s75.2.2.2.2.2.2.2.1,s75.2.2.2.2.2.2.2.2.1,()) h76 [])) λj77=>
xi v74 false (
jD .gtr s71.2.2.2.2.2.2.1 (iI 36) λv79=>
j77 (v79,v74,s71.2.2.1,s71.2.2.2.1,s71.2.2.2.2.1,s71.2.2.2.2.2.1,s71.2.2.2.2.2.2.1,s71.2.2.2.2.2.2.2.1,s71.2.2.2.2.2.2.2.2.1,()) h72) (
j77 (.undef,v74,s71.2.2.1,s71.2.2.2.1,s71.2.2.2.2.1,s71.2.2.2.2.2.1,s71.2.2.2.2.2.2.1,s71.2.2.2.2.2.2.2.1,s71.2.2.2.2.2.2.2.2.1,()) h72)) λj73=>
xi v70 false (
jD .eql a2 (iI 10) λv80=>
j73 (v80,v70,(.str []),.nils,a4,a3,a2,a1,a0,()) h) (
j73 (.undef,v70,(.str []),.nils,a4,a3,a2,a1,a0,()) h)
def W162 : WF :=w_5 S162
theorem W162_ok : WOk Tryz.prog 162 W162 :=qqh (pl :=P162) λ_ _ _ _ _ _ _=>by kernel_rfl
def P165 : Pl :=(.n none .z (.n none (.n none (.r [[11,7,1,0]]) .z) .z))
def S165 : tE2 Tryz.prog P165 165 :=λ_ _ _ _=>.mk _
def P166 : Pl :=.z
def S166 (_ : CV) (h : AH) : R :=
xU h 9 [(.str [])] 24 [(0,1,(.str [])),(1,1,(.str [115,101,116])),(2,1,(.str [109,111,118,101])),(3,1,(.str [97,100,100])),(4,1,(.str [115,117,98])),(5,1,(.str [109,117,108])),(6,1,(.str [108,101,115,115])),(7,1,(.str [101,113,117,97,108])),(8,1,(.str [108,111,97,100])),(9,1,(.str [115,116,111,114,101])),(10,1,(.str [97,108,108,111,99])),(11,1,(.str [102,114,101,101])),(12,1,(.str [106,117,109,112])),(13,1,(.str [122,101,114,111])),(14,1,(.str [111,112,101,110])),(15,1,(.str [99,108,111,115,101])),(16,1,(.str [117,110,100,111])),(17,1,(.str [101,105,116,104,101,114])),(18,1,(.str [111,114])),(19,1,(.str [100,111,110,101])),(20,1,(.str [114,101,116,114,121])),(21,1,(.str [101,109,105,116])),(22,1,(.str [102,97,105,108])),(23,1,(.str [99,97,108,108]))] λv0 h1=>
some (v0,h1)
def W166 : WF :=w_0 S166
theorem W166_ok : WOk Tryz.prog 166 W166 :=qK1 (pl :=P166) λ_ _=>by kernel_rfl
def P167 : Pl :=.z
def S167 : tE2 Tryz.prog P167 167 :=λ_ _ _ _=>.mk _
def P168 : Pl :=.z
def S168 : tE2 Tryz.prog P168 168 :=λ_ _ _ _=>.mk _
def P169 : Pl :=(.n none .z (.n none .z (.n none .z (.n none (.r [[17,15,9]]) .z))))
def S169 : tE3 Tryz.prog P169 169 :=λ_ _ _ _ _=>.mk _
def P170 : Pl :=(.n none .z (.n none .z (.n none .z (.n none (.r [[17,15,9]]) .z))))
def S170 : tE3 Tryz.prog P170 170 :=λ_ _ _ _ _=>.mk _
def P171 : Pl :=(.n none .z (.n none .z (.n none .z (.n none (.r [[17,15,9]]) .z))))
def S171 : tE3 Tryz.prog P171 171 :=λ_ _ _ _ _=>.mk _
def P172 : Pl :=(.n none .z (.n none .z (.n none .z (.n none (.r [[19,17,11]]) .z))))
def S172 : tE4 Tryz.prog P172 172 :=λ_ _ _ _ _ _=>.mk _
def P173 : Pl :=.z
def S173 : tE2 Tryz.prog P173 173 :=λ_ _ _ _=>.mk _
def P174 : Pl :=.z
def S174 : tE3 Tryz.prog P174 174 :=λ_ _ _ _ _=>.mk _
def P175 : Pl :=(.n none .z (.n none .z (.n none .z (.n none (.r [[17,15,9]]) .z))))
def S175 : tE3 Tryz.prog P175 175 :=λ_ _ _ _ _=>.mk _
end
end Go.Proofs.YtbiljkdgeekpbabGreatDoor
