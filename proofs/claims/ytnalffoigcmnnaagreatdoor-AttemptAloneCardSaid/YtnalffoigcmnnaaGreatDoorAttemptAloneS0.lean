/- Printed by a program of mine: the bodies of the program's functions aa terms of the primitives of the abstract executor, each shown equal by the kernel. -/
import Derived.Test.YtnalffoigcmnnaaGreatDoorProg
import Derived.Test.YtnalffoigcmnnaaGreatDoorAttemptAloneAe1
import Derived.KernelRfl
namespace Go.Proofs.YtnalffoigcmnnaaGreatDoor
open Go Go.Ae
abbrev u4_0 : Type :=AV×AV×AV×AV×Unit
abbrev u3_0 : Type :=AV×AV×AV×Unit
set_option maxRecDepth 100000
noncomputable section
attribute [local irreducible] zQ x9 yJ xv qh XD JK yB wb JB Jk vV jK je jj jv gY UV pEq J6 pUn yl JA G7 V2 vY zd vG xz wM jb y7 kH pMM y8 zx zW w7 xo zU XW Q4 kJ Gv Qn Gj OG Gy Y8 Y9 jw xm Qz QC QM z6 yO pIs Jv Ko zw zN QR AV.undef
set_option maxHeartbeats 40000000
def P3 : Pl :=(.n none .z (.n none .z (.n none .z (.n none .z (.n none .z (.n none .z (.n none (.n none .z (.n none (.n (some [12,11,10,9,0]) .z .z) .z)) (.n none .z (.n none .z (.n none .z (.n none (.n none (.r [[63,59,15,14,13,10,9]]) .z) (.n none .z (.n none .z (.n none (.n none .z (.n none (.n (some [18,17,16,15,10,9]) .z .z) .z)) (.n none .z (.n none .z (.n (some [20,19,16,15,10]) .z (.n none (.r [[8]]) .z))))))))))))))))))
def S3 : tE4 Tryz.prog P3 3 :=λ_ _ _ _ _ _=>.mk _
def P4 : Pl :=(.n none .z (.n none .z (.n none .z (.n none (.n none (.r [[24,22,2,1]]) .z) (.n none .z (.n none (.n none .z (.n none (.n (some [4,3,2,1]) (.n none .z (.n none (.n none (.n none .z (.n none (.n none (.r [[50,44,5,4,3,2,1],[55,52,5,4,3,2,1]]) .z) .z)) .z) .z)) .z) .z)) (.n none .z (.n none .z (.n none (.r [[75,74,7,2],[79,77,2],[84,81,2],[89,86,2],[94,91,2],[99,96,2],[104,101,2],[109,106]]) .z)))))))))
def S4 (c : CV) (h : AH) : R :=
zx [(iI 0),(iI 0),(iI 0),(iI 0),(uU 0)] [(0,1,(iI 40)),(1,1,(iI 4)),(3,1,(iI 1)),(4,1,(uU 5))] λv0=>
jw c (.fn 6 [] []) [v0] h λv1 h2=>
zx [(iI 0),(iI 0),(iI 0),(iI 0),(uU 0)] [(0,1,(iI 40)),(1,1,(iI 4)),(3,1,(iI 1))] λv3=>
zx [(iI 0),(iI 0),(iI 0),(iI 0),(uU 0),(iI 0),(iI 0),(iI 0)] [(0,5,v3),(7,1,(iI 9))] λv4=>
zx [(iI 0),(iI 0),(iI 0),(iI 0),(uU 0)] [(0,1,(iI 1)),(4,1,(uU 3))] λv5=>
zx [(iI 0),(iI 0),(iI 0),(iI 0),(uU 0)] [(0,1,(iI 21))] λv6=>
zW h2 74 [(iI 0),(iI 0),(iI 0),(iI 0),(uU 0)] 2 [(0,5,v5),(5,5,v6)] λv7 h8=>
zx [.nils] [(0,1,v7)] λv9=>
jw c (.fn 11 [] []) [(iI 0),v4,v9] h8 λv10 h11=>
pEq .ptr false v1 .nilp λv12=>
zN (α :=u4_0→AH→R) (λs13 h14=>
yJ s13.2.1 (.bool true) s13.1 λv16=>
zQ v16 (
some ((.bool false),h14)) (
zx [(iI 0),(iI 0),(uU 0),(uU 0),(uU 0),(.bool false),(iI 0),(uU 0),(.bool false),(iI 0)] [(0,1,(iI 9)),(3,1,(uU 1))] λv17=>
zx [(iI 0),(iI 0),(uU 0),(uU 0),(uU 0),(.bool false),(iI 0),(uU 0),(.bool false),(iI 0)] [(0,1,(iI 6))] λv18=>
zx [(iI 0),(iI 0),(uU 0),(uU 0),(uU 0),(.bool false),(iI 0),(uU 0),(.bool false),(iI 0)] [(0,1,(iI 9)),(3,1,(uU 6))] λv19=>
zx [(iI 0),(iI 0),(uU 0),(uU 0),(uU 0),(.bool false),(iI 0),(uU 0),(.bool false),(iI 0)] [(0,1,(iI 9))] λv20=>
zW h14 45 [(iI 0),(iI 0),(uU 0),(uU 0),(uU 0),(.bool false),(iI 0),(uU 0),(.bool false),(iI 0)] 4 [(0,10,v17),(10,10,v18),(20,10,v19),(30,10,v20)] λv21 h22=>
QR (σ :=u4_0) NN (λi26 s23 h24 d25=>
y7 s23.2.1 λv27=>
jv .lss s23.1 v27 λv28=>
zQ v28 (
jw c (.fn 26 [] []) [s23.2.2.1] h24 λv29 h30=>
jb v29 0 λv31=>
jb v29 1 λv32=>
y8 h30 45 (.agg [(iI 0),(iI 0),(uU 0),(uU 0),(uU 0),(.bool false),(iI 0),(uU 0),(.bool false),(iI 0)]) λv33 h34=>
jj h34 v33 v31 10 λh35=>
pUn .not v32 λv36=>
zN (α :=AV×AV×AV×AV×AV×AV×AV×Unit→AH→R) (λs37 h38=>
yJ s37.2.1 (.bool true) s37.1 λv40=>
zN (α :=AV×AV×AV×AV×AV×AV×AV×Unit→AH→R) (λs41 h42=>
yJ s41.2.1 (.bool true) s41.1 λv44=>
zQ v44 (
zw d25 h42 λh45=>
some ((.bool false),h45)) (
je h42 s41.2.2.1 10 λv46=>
jw c (.fn 8 [] []) [s41.2.2.2.2.2.2.1,v46] h42 λv47 h48=>
jw c (.fn 27 [] []) [s41.2.2.2.2.2.1,v47] h48 λ_ h50=>
jv .add s41.2.2.2.1 (iI 1) λv51=>
i26 (v51,s41.2.2.2.2.1,s41.2.2.2.2.2.1,s41.2.2.2.2.2.2.1,()) h50 d25)) λj43=>
x9 v40 false (
jw c (.fn 16 [] []) [s37.2.2.2.2.2.1] h38 λv52 h53=>
jv .neq v52 (iI 0) λv54=>
j43 (v54,v40,s37.2.2.1,s37.2.2.2.1,s37.2.2.2.2.1,s37.2.2.2.2.2.1,s37.2.2.2.2.2.2.1,()) h53) (
j43 (.undef,v40,s37.2.2.1,s37.2.2.2.1,s37.2.2.2.2.1,s37.2.2.2.2.2.1,s37.2.2.2.2.2.2.1,()) h38)) λj39=>
x9 v36 false (
je h35 v33 10 λv55=>
yB s23.2.1 s23.1 10 λv56=>
je h35 v56 10 λv57=>
J6 [.bas .int 0,.bas .int 1,.bas .int 2,.bas .int 3,.len 7,.bas .int 4,.bas .bool 5,.bas .int 6,.len 10,.bas .int 7,.bas .bool 8,.bas .int 9] true v55 v57 λv58=>
j39 (v58,v36,v33,s23.1,s23.2.1,s23.2.2.1,s23.2.2.2.1,()) h35) (
j39 (.undef,v36,v33,s23.1,s23.2.1,s23.2.2.1,s23.2.2.2.1,()) h35)) (
jw c (.fn 28 [] []) [s23.2.2.1] h24 λv59 h60=>
jb v59 0 λv61=>
jb v59 1 λv62=>
jw c (.fn 26 [] []) [s23.2.2.1] h60 λv63 h64=>
jb v63 0 λv65=>
jb v63 1 λv66=>
y8 h64 45 (.agg [(iI 0),(iI 0),(uU 0),(uU 0),(uU 0),(.bool false),(iI 0),(uU 0),(.bool false),(iI 0)]) λv67 h68=>
jj h68 v67 v65 10 λh69=>
pUn .not v66 λv70=>
zN (α :=u4_0→AH→R) (λs71 h72=>
yJ s71.2.1 s71.1 (.bool false) λv74=>
zN (α :=u3_0→AH→R) (λs75 h76=>
yJ s75.2.1 s75.1 (.bool false) λv78=>
zN (α :=u3_0→AH→R) (λs79 h80=>
yJ s79.2.1 s79.1 (.bool false) λv82=>
zN (α :=u3_0→AH→R) (λs83 h84=>
yJ s83.2.1 s83.1 (.bool false) λv86=>
zN (α :=u3_0→AH→R) (λs87 h88=>
yJ s87.2.1 s87.1 (.bool false) λv90=>
zN (α :=u3_0→AH→R) (λs91 h92=>
yJ s91.2.1 s91.1 (.bool false) λv94=>
zN (α :=u3_0→AH→R) (λs95 h96=>
yJ s95.2.1 s95.1 (.bool false) λv98=>
zN (α :=AV×AV×Unit→AH→R) (λs99 h100=>
yJ s99.2.1 s99.1 (.bool false) λv102=>
zw d25 h100 λh103=>
some (v102,h103)) λj101=>
x9 v98 true (
jw c (.fn 31 [] []) [s95.2.2.1] h96 λv104 h105=>
pUn .not v104 λv106=>
j101 (v106,v98,()) h105) (
j101 (.undef,v98,()) h96)) λj97=>
x9 v94 true (
jw c (.fn 30 [] []) [s91.2.2.1] h92 λv107 h108=>
pUn .not v107 λv109=>
j97 (v109,v94,s91.2.2.1,()) h108) (
j97 (.undef,v94,s91.2.2.1,()) h92)) λj93=>
x9 v90 true (
jw c (.fn 29 [] []) [s87.2.2.1] h88 λv110 h111=>
jv .eql v110 (.int .i64 (.negSucc 0)) λv112=>
j93 (v112,v90,s87.2.2.1,()) h111) (
j93 (.undef,v90,s87.2.2.1,()) h88)) λj89=>
x9 v86 true (
jw c (.fn 18 [] []) [s83.2.2.1] h84 λv113 h114=>
UV .eql v113 (.str [51]) λv115=>
j89 (v115,v86,s83.2.2.1,()) h114) (
j89 (.undef,v86,s83.2.2.1,()) h84)) λj85=>
x9 v82 true (
jw c (.fn 24 [] []) [s79.2.2.1] h80 λv116 h117=>
jv .eql v116 (uU 5) λv118=>
j85 (v118,v82,s79.2.2.1,()) h117) (
j85 (.undef,v82,s79.2.2.1,()) h80)) λj81=>
x9 v78 true (
jw c (.fn 16 [] []) [s75.2.2.1] h76 λv119 h120=>
jv .eql v119 (iI 2) λv121=>
j81 (v121,v78,s75.2.2.1,()) h120) (
j81 (.undef,v78,s75.2.2.1,()) h76)) λj77=>
x9 v74 true (
jv .eql s71.2.2.1 (uU 5) λv122=>
j77 (v122,v74,s71.2.2.2.1,()) h72) (
j77 (.undef,v74,s71.2.2.2.1,()) h72)) λj73=>
x9 v70 true (
j73 (v62,v70,v61,s23.2.2.1,()) h69) (
j73 (.undef,v70,v61,s23.2.2.1,()) h69))) ((iI 0),v21,s13.2.2.1,s13.2.2.2.1,()) h22 [])) λj15=>
x9 v12 false (
pEq .ptr false v10 .nilp λv123=>
j15 (v123,v12,v10,v1,()) h11) (
j15 (.undef,v12,v10,v1,()) h11)
def W4 : WF :=w_0 S4
theorem W4_ok : WOk Tryz.prog 4 W4 :=qGc (pl :=P4) λ_ _=>by kernel_rfl
def P5 : Pl :=(.n none .z (.n none (.r [[3,2,1]]) (.n none (.r [[3,2]]) .z)))
def S5 : tE1 Tryz.prog P5 5 :=λ_ _ _=>.mk _
def P6 : Pl :=(.n none .z (.n none .z (.n none (.r [[2]]) .z)))
def S6 : tE1 Tryz.prog P6 6 :=λ_ _ _=>.mk _
def P7 : Pl :=(.n none .z (.n none .z (.n none .z (.n none (.n none .z (.n none (.n (some [8,7,2,1]) (.n none (.n none (.r [[23,21,8,7,2,1]]) .z) .z) .z) .z)) (.n none .z (.n none (.n none .z (.n (some [7]) (.n (some [10,9,7,2]) (.n none (.n none (.r [[42,40,10,9,7,2]]) .z) (.n none (.n none (.n none .z (.n none .z (.n none .z (.n (some [11,10,9,7,2]) .z .z)))) .z) .z)) .z) .z)) .z))))))
def S7 : tE3 Tryz.prog P7 7 :=λ_ _ _ _ _=>.mk _
def P8 : Pl :=(.n none .z (.n none .z (.n (some [5,4]) .z .z)))
def S8 : tE2 Tryz.prog P8 8 :=λ_ _ _ _=>.mk _
def P9 : Pl :=.z
def S9 : tE1 Tryz.prog P9 9 :=λ_ _ _=>.mk _
def P10 : Pl :=(.n none .z (.n none .z (.n none .z (.n none (.n none .z (.n (some [8,7,6]) (.n (some [9,8,7,6,2,1,0]) (.n none .z (.n none (.n none (.n none .z (.n none .z (.n none .z (.n none .z (.n (some [9,8,7,6,2,1,0]) (.n none (.r [[46,44,12,11,10,9,8,7,6,2,1,0]]) (.n none .z (.n none (.r [[60,58,12,11,10,9,8,7,6,2,1,0],[64,62,12,11,10,9,8,7,6,2,1,0]]) (.n none .z (.n none (.r [[78,76,12,11,10,9,8,7,6,2,1,0],[82,80,12,11,10,9,8,7,6,2,1,0]]) (.n none .z (.n none (.r [[95,93,12,11,10,9,8,7,6,2,1,0],[103,97,12,11,10,9,8,7,6,2,1,0]]) (.n none .z (.n none (.r [[114,112,12,11,10,9,8,7,6,2,1,0],[118,116,12,11,10,9,8,7,6,2,1,0],[122,120,12,10,9,8,7,6,2,1,0]]) (.n none .z (.n none (.r [[140,138,12,10,9,8,7,6,2,1,0]]) (.n none .z (.n none (.r [[158,156,12,10,9,8,7,6,2,1,0]]) (.n none .z (.n none (.r [[176,174,12,10,9,8,7,6,2,1,0]]) (.n none (.r [[9,8,7,6,2,1,0]]) (.n none (.r [[195,193,10,9,8,7,6,2,1,0]]) (.n none (.r [[9,8,7,6,2,1,0]]) .z)))))))))))))))))) .z))))) .z) .z)) .z) .z)) (.n none (.n none (.n (some [8,7,6]) .z .z) .z) (.n (some [7,6]) .z .z))))))
def S10 : tE3 Tryz.prog P10 10 :=λ_ _ _ _ _=>.mk _
def P11 : Pl :=.z
def S11 : tE3 Tryz.prog P11 11 :=λ_ _ _ _ _=>.mk _
def P12 : Pl :=(.n none .z (.n none (.n none .z (.n none (.n (some [5,1,0]) .z .z) .z)) .z))
def S12 : tE2 Tryz.prog P12 12 :=λ_ _ _ _=>.mk _
def P13 : Pl :=(.n none .z (.n none .z (.n none .z (.n none .z (.n (some [11,8,0]) .z .z)))))
def S13 : tE4 Tryz.prog P13 13 :=λ_ _ _ _ _ _=>.mk _
def P14 : Pl :=.z
def S14 : tE1 Tryz.prog P14 14 :=λ_ _ _=>.mk _
def P15 : Pl :=.z
def S15 : tE1 Tryz.prog P15 15 :=λ_ _ _=>.mk _
def P16 : Pl :=.z
def S16 : tE1 Tryz.prog P16 16 :=λ_ _ _=>.mk _
def P17 : Pl :=.z
def S17 : tE1 Tryz.prog P17 17 :=λ_ _ _=>.mk _
def P18 : Pl :=(.n none .z (.n none (.n none (.r [[11,6,0]]) .z) .z))
def S18 : tE1 Tryz.prog P18 18 :=λ_ _ _=>.mk _
end
end Go.Proofs.YtnalffoigcmnnaaGreatDoor
