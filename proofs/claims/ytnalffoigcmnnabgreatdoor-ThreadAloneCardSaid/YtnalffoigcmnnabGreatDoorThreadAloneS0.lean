/- Printed by a program of mine: the bodies of the program's functions aa terms of the primitives of the abstract executor, each shown equal by the kernel. -/
import Derived.Test.YtnalffoigcmnnabGreatDoorProg
import Derived.Test.YtnalffoigcmnnabGreatDoorThreadAloneAe1
import Derived.KernelRfl
namespace Go.Proofs.YtnalffoigcmnnabGreatDoor
open Go Go.Ae
abbrev u4_0 : Type :=AV×AV×AV×AV×Unit
abbrev u3_0 : Type :=AV×AV×AV×Unit
set_option maxRecDepth 100000
noncomputable section
attribute [local irreducible] zT yN yc xU ql Gp Ya vZ Qw YH YI gd jq zW jC jR w7 N9 pEq GG pUn vp Yx Vh qQT gA xV gn yX Qj zA gU JI pMM vH xC zh Qx ym xY Gg Yh Qc VO YN UG qJa Ut VN UU jO yR XK JX J1 xl vN pIs Xt Og ze xQ Xs AV.undef
set_option maxHeartbeats 40000000
def P3 : Pl :=(.n none .z (.n none .z (.n none .z (.n none .z (.n none .z (.n none (.n none .z (.n none (.n (some [8,7,6,5,0]) (.n none (.n none (.r [[31,29,8,7,6,5,0]]) .z) .z) .z) .z)) (.n none .z (.n none (.n none (.r [[50,48,9,7,6,5]]) .z) (.n none .z (.n none .z (.n none (.n none .z (.n (some [10,9,7,6,5]) (.n (some [11,10,9,7,6,5]) .z .z) .z)) (.n none .z (.n none .z (.n none (.n none .z (.n none (.n (some [15,14,10,9,7,6,5]) (.n none .z (.n none (.n (some [15,14,10,9,7,6,5]) (.n none .z (.n none (.n none .z (.n none (.n none (.r [[108,104]]) .z) .z)) (.n none (.n none (.r [[122,114,16,15,14,9,7,6,5],[132,124,16,15,14,9,7,6,5],[142,134,16,15,14,9,7,6,5]]) .z) .z))) .z) .z)) .z) .z)) (.n none (.r [[168,164]]) .z)))))))))))))))
def S3 : tE2 Tryz.prog P3 3 :=λ_ _ _ _=>.mk _
def P4 : Pl :=(.n none .z (.n none .z (.n none .z (.n none .z (.n none .z (.n none (.n none (.r [[29,27,4,2]]) .z) (.n none (.n none .z (.n none (.n (some [5,4,2]) (.n none .z (.n none (.n none (.n none .z (.n none (.n none (.r [[45,42,6,5,4,2]]) .z) .z)) .z) .z)) .z) .z)) (.n none .z (.n none .z (.n none (.r [[67,64,11,10,4],[72,69,11,10,4],[79,74,10,4],[84,81,10,4],[91,86,10,4],[98,93,10,4],[105,100,4],[111,107,4],[116,113]]) .z))))))))))
def S4 (c : CV) (h : AH) : R :=
xC [(iI 0),(iI 0),(iI 0),(iI 0),(uU 0)] [(0,1,(iI 40)),(1,1,(iI 4)),(3,1,(iI 1)),(4,1,(uU 5))] λv0=>
xC [(iI 0),(iI 0),(iI 0),(iI 0),(uU 0),(iI 0),(iI 0),(iI 0)] [(0,5,v0),(7,1,(iI 9))] λv1=>
vH h 30 (.agg [(iI 0),(iI 0),(iI 0),(iI 0),(uU 0),(iI 0),(iI 0),(iI 0)]) λv2 h3=>
jC h3 v2 v1 8 λh4=>
ql v2 0 λv5=>
zW h4 v5 5 λv6=>
jO c (.fn 6 [] []) [v6] h4 λv7 h8=>
xC [(iI 0),(iI 0),(iI 0),(iI 0),(uU 0)] [(0,1,(iI 1)),(1,1,(iI 1)),(4,1,(uU 1))] λv9=>
zh h8 70 [(iI 0),(iI 0),(iI 0),(iI 0),(uU 0)] 1 [(0,5,v9)] λv10 h11=>
xC [.nils] [(0,1,v10)] λv12=>
vH h11 37 (.agg [.nils]) λv13 h14=>
jC h14 v13 v12 1 λh15=>
zW h15 v2 8 λv16=>
zW h15 v13 1 λv17=>
zW h15 v13 1 λv18=>
zh h15 37 [.nils] 2 [(0,1,v17),(1,1,v18)] λv19 h20=>
jO c (.fn 8 [] []) [(iI 0),v16,v19] h20 λv21 h22=>
pEq .ptr false v7 .nilp λv23=>
xQ (α :=u4_0→AH→R) (λs24 h25=>
yc s24.2.1 (.bool true) s24.1 λv27=>
zT v27 (
some ((.bool false),h25)) (
Xs (σ :=u3_0) NN (λi31 s28 h29 d30=>
jR .leq s28.1 (iI 8) λv32=>
zT v32 (
jO c (.fn 11 [] []) [s28.2.1] h29 λv33 h34=>
zA v33 0 λv35=>
zA v33 1 λv36=>
vH h34 50 (.agg [(iI 0),(iI 0),(uU 0),(uU 0),(uU 0),(.bool false),(iI 0),(uU 0),(.bool false),(iI 0)]) λv37 h38=>
jC h38 v37 v35 10 λh39=>
pUn .not v36 λv40=>
xQ (α :=AV×AV×AV×AV×AV×AV×Unit→AH→R) (λs41 h42=>
yc s41.2.1 (.bool true) s41.1 λv44=>
zT v44 (
ze d30 h42 λh45=>
some ((.bool false),h45)) (
zW h42 s41.2.2.1 10 λv46=>
jO c (.fn 9 [] []) [s41.2.2.2.2.2.1,v46] h42 λv47 h48=>
jO c (.fn 12 [] []) [s41.2.2.2.2.1,v47,(.int .u8 (.ofNat 0)),s41.2.2.2.1] h48 λ_ h50=>
jR .add s41.2.2.2.1 (iI 1) λv51=>
i31 (v51,s41.2.2.2.2.1,s41.2.2.2.2.2.1,()) h50 d30)) λj43=>
yN v40 false (
jO c (.fn 15 [] []) [s28.2.1] h39 λv52 h53=>
jR .neq v52 (iI 1) λv54=>
j43 (v54,v40,v37,s28.1,s28.2.1,s28.2.2.1,()) h53) (
j43 (.undef,v40,v37,s28.1,s28.2.1,s28.2.2.1,()) h39)) (
jO c (.fn 11 [] []) [s28.2.1] h29 λv55 h56=>
zA v55 0 λv57=>
zA v55 1 λv58=>
vH h56 50 (.agg [(iI 0),(iI 0),(uU 0),(uU 0),(uU 0),(.bool false),(iI 0),(uU 0),(.bool false),(iI 0)]) λv59 h60=>
jC h60 v59 v57 10 λh61=>
jO c (.fn 18 [] []) [s28.2.1] h61 λv62 h63=>
jO c (.fn 13 [] []) [s28.2.1] h63 λv64 h65=>
pUn .not v58 λv66=>
xQ (α :=AV×AV×AV×AV×AV×Unit→AH→R) (λs67 h68=>
yc s67.2.1 s67.1 (.bool false) λv70=>
xQ (α :=AV×AV×AV×AV×AV×Unit→AH→R) (λs71 h72=>
yc s71.2.1 s71.1 (.bool false) λv74=>
xQ (α :=u4_0→AH→R) (λs75 h76=>
yc s75.2.1 s75.1 (.bool false) λv78=>
xQ (α :=u4_0→AH→R) (λs79 h80=>
yc s79.2.1 s79.1 (.bool false) λv82=>
xQ (α :=u4_0→AH→R) (λs83 h84=>
yc s83.2.1 s83.1 (.bool false) λv86=>
xQ (α :=u4_0→AH→R) (λs87 h88=>
yc s87.2.1 s87.1 (.bool false) λv90=>
xQ (α :=u3_0→AH→R) (λs91 h92=>
yc s91.2.1 s91.1 (.bool false) λv94=>
xQ (α :=u3_0→AH→R) (λs95 h96=>
yc s95.2.1 s95.1 (.bool false) λv98=>
xQ (α :=AV×AV×Unit→AH→R) (λs99 h100=>
yc s99.2.1 s99.1 (.bool false) λv102=>
ze d30 h100 λh103=>
some (v102,h103)) λj101=>
yN v98 true (
jO c (.fn 20 [] []) [s95.2.2.1] h96 λv104 h105=>
pUn .not v104 λv106=>
j101 (v106,v98,()) h105) (
j101 (.undef,v98,()) h96)) λj97=>
yN v94 true (
jO c (.fn 19 [] []) [s91.2.2.1] h92 λv107 h108=>
gU v107 λv109=>
jR .eql v109 (iI 0) λv110=>
j97 (v110,v94,s91.2.2.1,()) h108) (
j97 (.undef,v94,s91.2.2.1,()) h92)) λj93=>
yN v90 true (
vZ s87.2.2.1 (iI 1) 14 λv111=>
ql v111 9 λv112=>
jq h88 v112 λv113=>
jR .eql v113 (iI 8) λv114=>
j93 (v114,v90,s87.2.2.2.1,()) h88) (
j93 (.undef,v90,s87.2.2.2.1,()) h88)) λj89=>
yN v86 true (
vZ s83.2.2.1 (iI 1) 14 λv115=>
ql v115 8 λv116=>
jq h84 v116 λv117=>
jR .eql v117 (iI 6) λv118=>
j89 (v118,v86,s83.2.2.1,s83.2.2.2.1,()) h84) (
j89 (.undef,v86,s83.2.2.1,s83.2.2.2.1,()) h84)) λj85=>
yN v82 true (
vZ s79.2.2.1 (iI 1) 14 λv119=>
ql v119 1 λv120=>
jq h80 v120 λv121=>
jR .eql v121 (iI 1) λv122=>
j85 (v122,v82,s79.2.2.1,s79.2.2.2.1,()) h80) (
j85 (.undef,v82,s79.2.2.1,s79.2.2.2.1,()) h80)) λj81=>
yN v78 true (
gU s75.2.2.1 λv123=>
jR .eql v123 (iI 2) λv124=>
j81 (v124,v78,s75.2.2.1,s75.2.2.2.1,()) h76) (
j81 (.undef,v78,s75.2.2.1,s75.2.2.2.1,()) h76)) λj77=>
yN v74 true (
vZ s71.2.2.1 (iI 1) 4 λv125=>
zW h72 v125 4 λv126=>
xC [(iI 0),(iI 0),(.str []),(uU 0)] [(0,1,(iI 2)),(3,1,(uU 5))] λv127=>
GG [.bas .int 0,.bas .int 1,.bas .str 2,.bas .int 3] false v126 v127 λv128=>
j77 (v128,v74,s71.2.2.2.1,s71.2.2.2.2.1,()) h72) (
j77 (.undef,v74,s71.2.2.2.1,s71.2.2.2.2.1,()) h72)) λj73=>
yN v70 true (
gU s67.2.2.1 λv129=>
jR .eql v129 (iI 2) λv130=>
j73 (v130,v70,s67.2.2.1,s67.2.2.2.1,s67.2.2.2.2.1,()) h68) (
j73 (.undef,v70,s67.2.2.1,s67.2.2.2.1,s67.2.2.2.2.1,()) h68)) λj69=>
yN v66 true (
jO c (.fn 15 [] []) [s28.2.1] h65 λv131 h132=>
jR .eql v131 (iI 6) λv133=>
j69 (v133,v66,v64,v62,s28.2.1,()) h132) (
j69 (.undef,v66,v64,v62,s28.2.1,()) h65))) ((iI 1),s24.2.2.1,s24.2.2.2.1,()) h25 [])) λj26=>
yN v23 false (
pEq .ptr false v21 .nilp λv134=>
j26 (v134,v23,v21,v7,()) h22) (
j26 (.undef,v23,v21,v7,()) h22)
def W4 : WF :=w_0 S4
theorem W4_ok : WOk Tryz.prog 4 W4 :=qza (pl :=P4) λ_ _=>by kernel_rfl
def P5 : Pl :=(.n none .z (.n none (.r [[3,2,1]]) (.n none (.r [[3,2]]) .z)))
def S5 : tE1 Tryz.prog P5 5 :=λ_ _ _=>.mk _
def P6 : Pl :=(.n none .z (.n none .z (.n none (.r [[2]]) .z)))
def S6 : tE1 Tryz.prog P6 6 :=λ_ _ _=>.mk _
def P7 : Pl :=(.n none .z (.n none .z (.n none .z (.n none (.n none .z (.n (some [8,7,6]) (.n (some [9,8,7,6,2,1,0]) (.n none .z (.n none (.n none (.n none .z (.n none .z (.n none .z (.n none .z (.n (some [9,8,7,6,2,1,0]) (.n none (.r [[46,44,12,11,10,9,8,7,6,2,1,0]]) (.n none .z (.n none (.r [[60,58,12,11,10,9,8,7,6,2,1,0],[64,62,12,11,10,9,8,7,6,2,1,0]]) (.n none .z (.n none (.r [[78,76,12,11,10,9,8,7,6,2,1,0],[82,80,12,11,10,9,8,7,6,2,1,0]]) (.n none .z (.n none (.r [[95,93,12,11,10,9,8,7,6,2,1,0],[103,97,12,11,10,9,8,7,6,2,1,0]]) (.n none .z (.n none (.r [[114,112,12,11,10,9,8,7,6,2,1,0],[118,116,12,11,10,9,8,7,6,2,1,0],[122,120,12,10,9,8,7,6,2,1,0]]) (.n none .z (.n none (.r [[140,138,12,10,9,8,7,6,2,1,0]]) (.n none .z (.n none (.r [[158,156,12,10,9,8,7,6,2,1,0]]) (.n none .z (.n none (.r [[176,174,12,10,9,8,7,6,2,1,0]]) (.n none (.r [[9,8,7,6,2,1,0]]) (.n none (.r [[195,193,10,9,8,7,6,2,1,0]]) (.n none (.r [[9,8,7,6,2,1,0]]) .z)))))))))))))))))) .z))))) .z) .z)) .z) .z)) (.n none (.n none (.n (some [8,7,6]) .z .z) .z) (.n (some [7,6]) .z .z))))))
def S7 : tE3 Tryz.prog P7 7 :=λ_ _ _ _ _=>.mk _
def P8 : Pl :=(.n none .z (.n none .z (.n none (.r [[7,2]]) (.n none (.n none .z (.n none (.n (some [29,28,27,7]) (.n none .z (.n none .z (.n none (.n none (.n none .z (.r [[29,28,27,7]])) .z) .z))) .z) .z)) .z))))
def S8 : tE3 Tryz.prog P8 8 :=λ_ _ _ _ _=>.mk _
def P9 : Pl :=(.n none .z (.n none .z (.n (some [5,4]) .z .z)))
def S9 : tE2 Tryz.prog P9 9 :=λ_ _ _ _=>.mk _
def P10 : Pl :=.z
def S10 : tE1 Tryz.prog P10 10 :=λ_ _ _=>.mk _
def P11 : Pl :=.z
def S11 : tE1 Tryz.prog P11 11 :=λ_ _ _=>.mk _
def P12 : Pl :=(.n none .z (.n none .z (.n (some []) (.n none .z (.n none (.n none .z (.n none .z (.n (some [3,2,0]) (.n none .z (.n none (.r [[43,41,3,2,0]]) .z)) .z))) (.n none .z (.n none .z (.n none .z (.n none (.n (some [5,0]) .z .z) .z)))))) .z)))
def S12 : tE4 Tryz.prog P12 12 :=λ_ _ _ _ _ _=>.mk _
def P13 : Pl :=.z
def S13 : tE1 Tryz.prog P13 13 :=λ_ _ _=>.mk _
def P14 : Pl :=(.n none .z (.n none .z (.n none .z (.n none .z (.n (some [11,8,0]) .z .z)))))
def S14 : tE4 Tryz.prog P14 14 :=λ_ _ _ _ _ _=>.mk _
def P15 : Pl :=.z
def S15 : tE1 Tryz.prog P15 15 :=λ_ _ _=>.mk _
def P16 : Pl :=(.n none .z (.n none .z (.n none (.n none .z (.n none (.n (some [16,15,14,7,6,0]) .z .z) .z)) .z)))
def S16 : tE3 Tryz.prog P16 16 :=λ_ _ _ _ _=>.mk _
def P17 : Pl :=(.n none .z (.n none .z (.n none (.n none .z (.n none (.n (some [5,1,0]) .z .z) .z)) .z)))
def S17 : tE2 Tryz.prog P17 17 :=λ_ _ _ _=>.mk _
def P18 : Pl :=(.n none .z (.n none .z (.n none (.n none .z (.n none (.n (some [13,12,11,3,0]) .z .z) .z)) (.n (some [3]) .z .z))))
def S18 : tE1 Tryz.prog P18 18 :=λ_ _ _=>.mk _
def P19 : Pl :=(.n none .z (.n none (.r [[2]]) .z))
def S19 : tE1 Tryz.prog P19 19 :=λ_ _ _=>.mk _
def P20 : Pl :=(.n none .z (.n none (.r [[13,8]]) .z))
def S20 : tE1 Tryz.prog P20 20 :=λ_ _ _=>.mk _
def P21 : Pl :=(.n none .z (.n none .z (.n (some [1,0]) .z .z)))
def S21 : tE3 Tryz.prog P21 21 :=λ_ _ _ _ _=>.mk _
def P22 : Pl :=.z
def S22 : tE1 Tryz.prog P22 22 :=λ_ _ _=>.mk _
def P23 : Pl :=.z
def S23 : tE1 Tryz.prog P23 23 :=λ_ _ _=>.mk _
def P24 : Pl :=.z
def S24 : tE2 Tryz.prog P24 24 :=λ_ _ _ _=>.mk _
def P25 : Pl :=.z
def S25 : tE1 Tryz.prog P25 25 :=λ_ _ _=>.mk _
def P26 : Pl :=.z
def S26 : tE1 Tryz.prog P26 26 :=λ_ _ _=>.mk _
def P27 : Pl :=(.n none .z (.n none .z (.n none (.n none .z (.n none (.n none .z (.n none (.n none (.r [[5,4]]) .z) .z)) .z)) (.n none (.r [[5,4]]) .z))))
def S27 : tE2 Tryz.prog P27 27 :=λ_ _ _ _=>.mk _
def P28 : Pl :=.z
def S28 : tE1 Tryz.prog P28 28 :=λ_ _ _=>.mk _
def P29 : Pl :=(.n none .z (.n none (.r [[5,4,3,2,1]]) (.n none .z (.n none .z (.n none (.n none .z (.n none (.n (some [23,22,7,6,5,4,3,2,1]) .z (.n none .z (.n none .z (.n none .z (.n none .z (.n none .z (.n none .z (.n none .z (.n (some [54,22,7,6,4,3,2,1]) .z (.n none .z (.n (some [62,22,7,6,4,3,2,1]) .z (.n none .z (.n none .z (.n none .z (.n none .z (.n none .z (.n (some [86,22,7,6,4,3,2]) .z .z))))))))))))))))) .z)) .z)))))
def S29 : tE1 Tryz.prog P29 29 :=λ_ _ _=>.mk _
def P30 : Pl :=(.n none .z (.n none (.r [[2]]) .z))
def S30 : tE1 Tryz.prog P30 30 :=λ_ _ _=>.mk _
def P31 : Pl :=.z
def S31 : tE0 Tryz.prog P31 31 :=λ_ _=>.mk _
def P32 : Pl :=.z
def S32 : tE1 Tryz.prog P32 32 :=λ_ _ _=>.mk _
def P33 : Pl :=.z
def S33 : tE1 Tryz.prog P33 33 :=λ_ _ _=>.mk _
def P34 : Pl :=(.n none .z (.n none .z (.n none (.n none .z (.n (some [5,4]) .z .z)) .z)))
def S34 : tE2 Tryz.prog P34 34 :=λ_ _ _ _=>.mk _
def P35 : Pl :=.z
def S35 : tE1 Tryz.prog P35 35 :=λ_ _ _=>.mk _
def P36 : Pl :=.z
def S36 (c : CV) (a0 : AV) (h : AH) : R :=
vH h 50 (.agg [(iI 0),(iI 0),(uU 0),(uU 0),(uU 0),(.bool false),(iI 0),(uU 0),(.bool false),(iI 0)]) λv0 h1=>
xU a0 λv2=>
ql v2 14 λv3=>
jq h1 v3 λv4=>
jR .eql v4 (iI 0) λv5=>
zT v5 (
xU a0 λv6=>
ql v6 0 λv7=>
jq h1 v7 λv8=>
xC [(iI 0),(iI 0),(uU 0),(uU 0),(uU 0),(.bool false),(iI 0),(uU 0),(.bool false),(iI 0)] [(0,1,(iI 9)),(1,1,v8),(3,1,(uU 1))] λv9=>
jC h1 v0 v9 10 λh10=>
zW h10 v0 10 λv11=>
some ((.tup [v11,(.bool true)]),h10)) (
jR .eql v4 (iI 1) λv12=>
zT v12 (
xC [(iI 0),(iI 0),(uU 0),(uU 0),(uU 0),(.bool false),(iI 0),(uU 0),(.bool false),(iI 0)] [(0,1,(iI 6))] λv13=>
jC h1 v0 v13 10 λh14=>
zW h14 v0 10 λv15=>
some ((.tup [v15,(.bool true)]),h14)) (
jR .eql v4 (iI 2) λv16=>
zT v16 (
xU a0 λv17=>
ql v17 0 λv18=>
jq h1 v18 λv19=>
xU a0 λv20=>
ql v20 21 λv21=>
jq h1 v21 λv22=>
jR .add v22 (uU 1) λv23=>
xC [(iI 0),(iI 0),(uU 0),(uU 0),(uU 0),(.bool false),(iI 0),(uU 0),(.bool false),(iI 0)] [(0,1,(iI 9)),(1,1,v19),(3,1,v23)] λv24=>
jC h1 v0 v24 10 λh25=>
zW h25 v0 10 λv26=>
some ((.tup [v26,(.bool true)]),h25)) (
jR .eql v4 (iI 7) λv27=>
zT v27 (
xU a0 λv28=>
ql v28 0 λv29=>
jq h1 v29 λv30=>
xC [(iI 0),(iI 0),(uU 0),(uU 0),(uU 0),(.bool false),(iI 0),(uU 0),(.bool false),(iI 0)] [(0,1,(iI 9)),(1,1,v30)] λv31=>
jC h1 v0 v31 10 λh32=>
zW h32 v0 10 λv33=>
some ((.tup [v33,(.bool true)]),h32)) (
jR .eql v4 (iI 8) λv34=>
zT v34 (
xC [(iI 0),(iI 0),(uU 0),(uU 0),(uU 0),(.bool false),(iI 0),(uU 0),(.bool false),(iI 0)] [] λv35=>
jC h1 v0 v35 10 λh36=>
zW h36 v0 10 λv37=>
some ((.tup [v37,(.bool false)]),h36)) (
xU a0 λv38=>
ql v38 15 λv39=>
jq h1 v39 λv40=>
yR c [(41,11),(100,36),(151,346),(152,354),(153,357),(364,317)] v40 [] h1 λv41 h42=>
zA v41 0 λv43=>
zA v41 1 λv44=>
jC h42 v0 v43 10 λh45=>
zW h45 v0 10 λv46=>
some ((.tup [v46,v44]),h45))))))
def W36 : WF :=w_1 S36
theorem W36_ok : WOk Tryz.prog 36 W36 :=KK (pl :=P36) λ_ _ _=>by kernel_rfl
def P37 : Pl :=.z
def S37 : tE1 Tryz.prog P37 37 :=λ_ _ _=>.mk _
def P38 : Pl :=(.n none .z (.n none .z (.n none .z (.n none .z (.n (some []) (.n none .z (.n none .z (.n none .z (.n none (.n none (.r [[0]]) .z) .z)))) .z)))))
def S38 (c : CV) (a0 a1 : AV) (h : AH) : R :=
vH h 47 a1 λv0 h1=>
xU a0 λv2=>
ql v2 14 λv3=>
jq h1 v3 λv4=>
jR .eql v4 (iI 8) λv5=>
zT v5 (
some ((.tup []),h1)) (
ql v0 5 λv6=>
jq h1 v6 λv7=>
jR .neq v7 (iI 0) λv8=>
zT v8 (
ql v0 5 λv9=>
jq h1 v9 λv10=>
jO c (.fn 70 [] []) [a0,(iI 4),v10,(.int .i64 (.negSucc 0))] h1 λ_ h12=>
xU a0 λv13=>
ql v13 14 λv14=>
jC h12 v14 (iI 8) 1 λh15=>
some ((.tup []),h15)) (
xU a0 λv16=>
ql v16 14 λv17=>
jq h1 v17 λv18=>
xQ (α :=Unit→AH→List Nat→R) (λ_ h20 d21=>
ze d21 h20 λh23=>
some ((.tup []),h23)) λj22=>
jR .eql v18 (iI 0) λv24=>
zT v24 (
xU a0 λv25=>
ql v25 14 λv26=>
jC h1 v26 (iI 1) 1 λh27=>
j22 (()) h27 []) (
jR .eql v18 (iI 1) λv28=>
zT v28 (
xQ (α :=AV×Unit→AH→R) (λs29 h30=>
xU s29.1 λv32=>
ql v32 14 λv33=>
jC h30 v33 (iI 2) 1 λh34=>
j22 (()) h34 []) λj31=>
ql v0 0 λv35=>
jq h1 v35 λv36=>
ql v0 0 λv37=>
jq h1 v37 λv38=>
xU a0 λv39=>
ql v39 19 λv40=>
jC h1 v40 (.bool true) 1 λh41=>
xU a0 λv42=>
ql v42 20 λv43=>
jC h41 v43 v36 1 λh44=>
xU a0 λv45=>
ql v45 21 λv46=>
jC h44 v46 v38 1 λh47=>
JX v37 none v38 h41 h44 h1.nx<|
JX v37 none v38 h1 h41 h1.nx<|
JX v35 none v36 h1 h41 h1.nx<|
j31 (a0,()) h47) (
jR .eql v18 (iI 2) λv48=>
zT v48 (
jO c (.fn 71 [] []) [a0] h1 λ_ h50=>
j22 (()) h50 []) (
jR .eql v18 (iI 7) λv51=>
zT v51 (
xU a0 λv52=>
ql v52 14 λv53=>
jC h1 v53 (iI 8) 1 λh54=>
j22 (()) h54 []) (
xU a0 λv55=>
ql v55 15 λv56=>
jq h1 v56 λv57=>
zW h1 v0 6 λv58=>
yR c [(41,12),(100,38),(151,347),(152,355),(153,358)] v57 [v58] h1 λ_ h60=>
jO c (.fn 72 [] []) [a0] h60 λ_ h62=>
j22 (()) h62 []))))))
def W38 : WF :=w_2 S38
theorem W38_ok : WOk Tryz.prog 38 W38 :=qZS (pl :=P38) λ_ _ _ _=>by kernel_rfl
def P39 : Pl :=.z
def S39 : tE1 Tryz.prog P39 39 :=λ_ _ _=>.mk _
def P40 : Pl :=(.n none .z (.n none (.r [[6,1,0]]) (.n none .z (.n (some []) (.n none .z (.n none (.n none .z (.n none (.n none (.r [[87,6,1,0]]) .z) .z)) (.n none .z (.n none .z (.n none .z (.n none .z (.n none (.r [[6,0]]) (.n none (.r [[0]]) .z)))))))) .z))))
def S40 : tE3 Tryz.prog P40 40 :=λ_ _ _ _ _=>.mk _
def P41 : Pl :=(.n none .z (.n none (.n none (.r [[12,9,4,2,0],[20,14,4,2,0],[27,20,14,4,2,0],[28,14,4,2,0]]) (.n none (.n none (.r [[]]) .z) .z)) .z))
def S41 : tE3 Tryz.prog P41 41 :=λ_ _ _ _ _=>.mk _
def P42 : Pl :=.z
def S42 : tE2 Tryz.prog P42 42 :=λ_ _ _ _=>.mk _
def P43 : Pl :=.z
def S43 : tE1 Tryz.prog P43 43 :=λ_ _ _=>.mk _
def P44 : Pl :=(.n none .z (.n none .z (.n none (.n none .z (.n none (.n (some [6,5,0]) (.n none .z (.n none (.n none (.n none .z (.n (some [7,6,5,0]) .z .z)) .z) .z)) .z) .z)) .z)))
def S44 : tE2 Tryz.prog P44 44 :=λ_ _ _ _=>.mk _
def P45 : Pl :=(.n none .z (.n none .z (.n none .z (.n none (.r [[6]]) .z))))
def S45 : tE3 Tryz.prog P45 45 :=λ_ _ _ _ _=>.mk _
def P46 : Pl :=(.n none .z (.n none (.n none (.n (some [0]) (.n none .z (.n (some [0]) (.n none .z (.n none .z (.n none .z (.n none .z (.n (some [0]) .z .z))))) .z)) .z) .z) .z))
def S46 : tE1 Tryz.prog P46 46 :=λ_ _ _=>.mk _
def P47 : Pl :=.z
def S47 : tE1 Tryz.prog P47 47 :=λ_ _ _=>.mk _
def P48 : Pl :=.z
def S48 : tE1 Tryz.prog P48 48 :=λ_ _ _=>.mk _
def P49 : Pl :=(.n none .z (.n none .z (.n none (.n none .z (.n none (.n (some [17,16,15,3]) .z .z) .z)) .z)))
def S49 (c : CV) (a0 : AV) (h : AH) : R :=
xU a0 λv0=>
ql v0 0 λv1=>
jq h v1 λv2=>
gU v2 λv3=>
Qx h 9 [(.str [])] v3 v3 λv4 h5=>
xU a0 λv6=>
ql v6 0 λv7=>
jq h5 v7 λv8=>
gU v8 λv9=>
Xs (σ :=u4_0) NN (λi13 s10 h11 d12=>
jR .lss s10.1 s10.2.1 λv14=>
zT v14 (
vZ s10.2.2.1 s10.1 1 λv15=>
jq h11 v15 λv16=>
jO c (.fn 92 [] []) [v16] h11 λv17 h18=>
vZ s10.2.2.2.1 s10.1 1 λv19=>
jC h18 v19 v17 1 λh20=>
jR .add s10.1 (iI 1) λv21=>
i13 (v21,s10.2.1,s10.2.2.1,s10.2.2.2.1,()) h20 d12) (
jO c (.fn 93 [] []) [s10.2.2.2.1,(.str [32])] h11 λv22 h23=>
ze d12 h23 λh24=>
some (v22,h24))) ((iI 0),v9,v8,v4,()) h5 []
def W49 : WF :=w_1 S49
theorem W49_ok : WOk Tryz.prog 49 W49 :=KK (pl :=P49) λ_ _ _=>by kernel_rfl
def P50 : Pl :=.z
def S50 : tE1 Tryz.prog P50 50 :=λ_ _ _=>.mk _
def P51 : Pl :=.z
def S51 : tE1 Tryz.prog P51 51 :=λ_ _ _=>.mk _
def P52 : Pl :=(.n none .z (.n none .z (.n none .z (.n none (.n none .z (.n none (.n (some [23,22,21,5]) (.n none .z (.n none .z (.n none (.n (some [23,22,21,5]) (.n none .z (.n none (.r [[35,30,23,22,21,7,5]]) .z)) .z) .z))) .z) .z)) .z))))
def S52 : tE2 Tryz.prog P52 52 :=λ_ _ _ _=>.mk _
def P53 : Pl :=(.n none .z (.n none .z (.n (some [7,5,1,0]) (.n none (.r [[19,18,7,5,1,0]]) .z) .z)))
def S53 : tE2 Tryz.prog P53 53 :=λ_ _ _ _=>.mk _
def P54 : Pl :=(.n none .z (.n none (.r [[2,1]]) .z))
def S54 : tE1 Tryz.prog P54 54 :=λ_ _ _=>.mk _
def P55 : Pl :=(.n none .z (.n none .z (.n none .z (.n none .z (.n (some [8,6,5,4,1,0]) .z (.n none (.r [[4]]) .z))))))
def S55 : tE2 Tryz.prog P55 55 :=λ_ _ _ _=>.mk _
def P56 : Pl :=.z
def S56 : tE1 Tryz.prog P56 56 :=λ_ _ _=>.mk _
def P57 : Pl :=(.n none .z (.n none (.r [[13,8,0],[21,15,0],[27,21,15],[28,15]]) .z))
def S57 : tE1 Tryz.prog P57 57 :=λ_ _ _=>.mk _
def P58 : Pl :=.z
def S58 : tE2 Tryz.prog P58 58 :=λ_ _ _ _=>.mk _
def P59 : Pl :=(.n none .z (.n none (.n (some [0]) (.n none .z (.n none .z (.n none .z (.n none (.n none .z (.n none (.n none .z (.n none (.n (some [62,61,60,2,0]) .z .z) .z)) .z)) .z)))) .z) .z))
def S59 : tE1 Tryz.prog P59 59 :=λ_ _ _=>.mk _
def P60 : Pl :=.z
def S60 : tE2 Tryz.prog P60 60 :=λ_ _ _ _=>.mk _
def P61 : Pl :=.z
def S61 : tE3 Tryz.prog P61 61 :=λ_ _ _ _ _=>.mk _
def P62 : Pl :=.z
def S62 : tE2 Tryz.prog P62 62 :=λ_ _ _ _=>.mk _
def P63 : Pl :=.z
def S63 (c : CV) (a0 a1 a2 a3 : AV) (h : AH) : R :=
vH h 44 a2 λv0 h1=>
vH h1 44 a3 λv2 h3=>
zW h3 v2 3 λv4=>
jO c (.fn 111 [] []) [a0,a1,v4] h3 λv5 h6=>
jR .neq v5 (iI 0) λv7=>
zT v7 (
some ((.tup [(.bool false),v5]),h6)) (
xU a0 λv8=>
ql v8 0 λv9=>
jq h6 v9 λv10=>
vZ v10 a1 3 λv11=>
zW h6 v11 3 λv12=>
zW h6 v0 3 λv13=>
GG [.bas .int 0,.bas .bool 1,.bas .int 2] true v12 v13 λv14=>
zT v14 (
some ((.tup [(.bool false),(iI 0)]),h6)) (
xU a0 λv15=>
ql v15 0 λv16=>
jq h6 v16 λv17=>
zW h6 v2 3 λv18=>
vZ v17 a1 3 λv19=>
jC h6 v19 v18 3 λh20=>
some ((.tup [(.bool true),(iI 0)]),h20)))
def W63 : WF :=w_4 S63
theorem W63_ok : WOk Tryz.prog 63 W63 :=qg7 (pl :=P63) λ_ _ _ _ _ _=>by kernel_rfl
def P64 : Pl :=(.n none .z (.n none .z (.n (some [7]) .z .z)))
def S64 : tE3 Tryz.prog P64 64 :=λ_ _ _ _ _=>.mk _
def P65 : Pl :=.z
def S65 : tE1 Tryz.prog P65 65 :=λ_ _ _=>.mk _
def P66 : Pl :=.z
def S66 : tE3 Tryz.prog P66 66 :=λ_ _ _ _ _=>.mk _
def P67 : Pl :=.z
def S67 : tE2 Tryz.prog P67 67 :=λ_ _ _ _=>.mk _
def P68 : Pl :=.z
def S68 : tE3 Tryz.prog P68 68 :=λ_ _ _ _ _=>.mk _
def P69 : Pl :=.z
def S69 : tE1 Tryz.prog P69 69 :=λ_ _ _=>.mk _
def P70 : Pl :=.z
def S70 : tE4 Tryz.prog P70 70 :=λ_ _ _ _ _ _=>.mk _
def P71 : Pl :=(.n none .z (.n none .z (.n (some []) (.n none .z (.n none .z (.n none .z (.n none .z (.n none .z (.n none .z (.n none .z (.n none .z (.n none (.r [[0]]) .z))))))))) .z)))
def S71 : tE1 Tryz.prog P71 71 :=λ_ _ _=>.mk _
def P72 : Pl :=(.n none (.n none .z (.n (some [0]) .z .z)) .z)
def S72 (c : CV) (a0 : AV) (h : AH) : R :=
xU a0 λv0=>
ql v0 15 λv1=>
jq h v1 λv2=>
yR c [(100,39),(151,207),(152,211),(153,106),(277,151)] v2 [] h λv3 h4=>
xQ (α :=AV×Unit→AH→List Nat→R) (λs5 h6 d7=>
jO c (.fn 57 [] []) [s5.1] h6 λv9 h10=>
zT v9 (
xU s5.1 λv11=>
ql v11 18 λv12=>
jq h10 v12 λv13=>
jO c (.fn 121 [] []) [v13] h10 λv14 h15=>
xU s5.1 λv16=>
ql v16 21 λv17=>
jC h15 v17 v14 1 λh18=>
ze d7 h18 λh19=>
some ((.tup []),h19)) (
ze d7 h10 λh20=>
some ((.tup []),h20))) λj8=>
jR .eql v3 (iI 0) λv21=>
zT v21 (
j8 (a0,()) h4 []) (
jR .eql v3 (iI 5) λv22=>
zT v22 (
xU a0 λv23=>
ql v23 15 λv24=>
jq h4 v24 λv25=>
yR c [(100,73),(151,345),(152,353),(153,356),(277,348)] v25 [] h4 λv26 h27=>
jO c (.fn 70 [] []) [a0,(iI 5),(iI 0),v26] h27 λ_ h29=>
j8 (a0,()) h29 []) (
jO c (.fn 120 [] []) [a0] h4 λ_ h31=>
j8 (a0,()) h31 []))
def W72 : WF :=w_1 S72
theorem W72_ok : WOk Tryz.prog 72 W72 :=KK (pl :=P72) λ_ _ _=>by kernel_rfl
def P73 : Pl :=.z
def S73 : tE1 Tryz.prog P73 73 :=λ_ _ _=>.mk _
def P74 : Pl :=(.n none .z (.n none (.n none .z (.n none (.n (some [11,10,4,1,0]) .z .z) .z)) .z))
def S74 : tE2 Tryz.prog P74 74 :=λ_ _ _ _=>.mk _
def P75 : Pl :=(.n (some [0]) (.n none .z (.n none (.n none .z (.n none (.n (some [14,13,12,0]) .z .z) .z)) .z)) .z)
def S75 : tE2 Tryz.prog P75 75 :=λ_ _ _ _=>.mk _
def P76 : Pl :=.z
def S76 : tE1 Tryz.prog P76 76 :=λ_ _ _=>.mk _
def P77 : Pl :=(.n none .z (.n none (.n none (.r [[11,6,0]]) .z) .z))
def S77 : tE1 Tryz.prog P77 77 :=λ_ _ _=>.mk _
def P78 : Pl :=.z
def S78 : tE1 Tryz.prog P78 78 :=λ_ _ _=>.mk _
def P79 : Pl :=(.n none .z (.n none (.n (some [10,9,8,1,0]) .z .z) .z))
def S79 : tE3 Tryz.prog P79 79 :=λ_ _ _ _ _=>.mk _
def P80 : Pl :=.z
def S80 : tE1 Tryz.prog P80 80 :=λ_ _ _=>.mk _
def P81 : Pl :=.z
def S81 : tE1 Tryz.prog P81 81 :=λ_ _ _=>.mk _
def P82 : Pl :=(.n (some [0]) .z .z)
def S82 : tE1 Tryz.prog P82 82 :=λ_ _ _=>.mk _
def P83 : Pl :=.z
def S83 : tE2 Tryz.prog P83 83 :=λ_ _ _ _=>.mk _
def P84 : Pl :=.z
def S84 : tE1 Tryz.prog P84 84 :=λ_ _ _=>.mk _
def P85 : Pl :=.z
def S85 : tE3 Tryz.prog P85 85 :=λ_ _ _ _ _=>.mk _
def P86 : Pl :=(.n none .z (.n none (.n none (.r [[16,12,1]]) .z) (.n none .z (.n none (.n none .z (.n none (.n (some [21,20,19,4,1]) .z .z) .z)) (.n none .z (.n none (.r [[3,2]]) .z))))))
def S86 : tE1 Tryz.prog P86 86 :=λ_ _ _=>.mk _
def P87 : Pl :=(.n none .z (.n none .z (.n none .z (.n none .z (.n none (.n none .z (.n none (.n (some [27,26,6,5,1]) .z .z) .z)) (.n none (.n none .z (.n none (.n (some [37,36,35,6,5,1]) (.n none .z (.n none .z (.n none (.n (some [37,36,35,6,5,1]) .z .z) .z))) .z) .z)) (.n none (.n none .z (.n none (.n (some [57,56,55,6,5]) (.n none .z (.n none .z (.n none (.n (some [57,56,55,6,5]) .z .z) .z))) .z) .z)) .z)))))))
def S87 : tE1 Tryz.prog P87 87 :=λ_ _ _=>.mk _
def P88 : Pl :=.z
def S88 : tE0 Tryz.prog P88 88 :=λ_ _=>.mk _
def P89 : Pl :=.z
def S89 : tE2 Tryz.prog P89 89 :=λ_ _ _ _=>.mk _
def P90 : Pl :=(.n none .z (.n none .z (.n none (.n none .z (.n (some []) (.n none .z (.n none .z (.n none .z (.n none .z (.n none .z (.n none .z (.n none .z (.n none .z (.n none .z (.n none .z (.n none .z (.n none .z (.n none .z (.n none .z (.n none .z (.n none .z (.n none .z (.n none .z (.n none .z (.n none .z (.n none .z (.n none .z (.n none .z (.n none .z (.n (some [120,6,5,3,0]) .z .z))))))))))))))))))))))))) .z)) .z)))
def S90 : tE2 Tryz.prog P90 90 :=λ_ _ _ _=>.mk _
def P91 : Pl :=.z
def S91 : tE1 Tryz.prog P91 91 :=λ_ _ _=>.mk _
def P92 : Pl :=.z
def S92 (c : CV) (a0 : AV) (h : AH) : R :=
yX 23 (uU 0) a0 λv0=>
zA v0 1 λv1=>
zA v0 0 λv2=>
zT v1 (
jO c (.fn 139 [] []) [v2,(iI 10)] h λv3 h4=>
some (v3,h4)) (
yX 4 (.bool false) a0 λv5=>
zA v5 1 λv6=>
zA v5 0 λv7=>
zT v6 (
zT v7 (
some ((.str [121,101,115]),h)) (
some ((.str [110,111]),h))) (
some ((.str [110,111,110,101]),h)))
def W92 : WF :=w_1 S92
theorem W92_ok : WOk Tryz.prog 92 W92 :=KK (pl :=P92) λ_ _ _=>by kernel_rfl
def P94 : Pl :=(.n none .z (.n none .z (.n none (.n none .z (.n none (.n (some [3]) .z .z) .z)) .z)))
def S94 (c : CV) (a0 : AV) (h : AH) : R :=
vH h 58 .nils λv0 h1=>
xU a0 λv2=>
ql v2 1 λv3=>
jq h1 v3 λv4=>
jO c (.fn 143 [] []) [v4] h1 λv5 h6=>
XK c v5 [.yield (h6.new .dfd).nx] ((h6.new .dfd).new (.loop .ready none 94 [1,1,0,1,0] [3] [v0] h6.nx)) λ_ h7=>
vN h7 (h6.new .dfd).nx λp9 h8=>
Xt p9 (
jq h8 v0 λv10=>
ze (h6.nx::[]) h8 λh11=>
some (v10,h11))<|
none
def W94 : WF :=w_1 S94
theorem W94_ok : WOk Tryz.prog 94 W94 :=KK (pl :=P94) λ_ _ _=>by kernel_rfl
def P95 : Pl :=(.n none .z (.n none .z (.n none (.n none .z (.n none (.n (some [11,10,9,3]) .z .z) .z)) .z)))
def S95 : tE1 Tryz.prog P95 95 :=λ_ _ _=>.mk _
def P96 : Pl :=(.n none .z (.n none (.n none (.r [[17,13,1,0]]) .z) .z))
def S96 : tE2 Tryz.prog P96 96 :=λ_ _ _ _=>.mk _
def P97 : Pl :=.z
def S97 : tE2 Tryz.prog P97 97 :=λ_ _ _ _=>.mk _
def P98 : Pl :=.z
def S98 : tE1 Tryz.prog P98 98 :=λ_ _ _=>.mk _
def P99 : Pl :=(.n none .z (.n none (.n none .z (.n none (.n (some [9,8,7,1,0]) .z .z) .z)) .z))
def S99 : tE2 Tryz.prog P99 99 :=λ_ _ _ _=>.mk _
def P100 : Pl :=.z
def S100 : tE1 Tryz.prog P100 100 :=λ_ _ _=>.mk _
def P101 : Pl :=.z
def S101 : tE1 Tryz.prog P101 101 :=λ_ _ _=>.mk _
def P102 : Pl :=.z
def S102 : tE1 Tryz.prog P102 102 :=λ_ _ _=>.mk _
def P103 : Pl :=.z
def S103 : tE1 Tryz.prog P103 103 :=λ_ _ _=>.mk _
def P104 : Pl :=.z
def S104 : tE1 Tryz.prog P104 104 :=λ_ _ _=>.mk _
def P105 : Pl :=(.n none .z (.n none (.r [[10,7]]) .z))
def S105 : tE1 Tryz.prog P105 105 :=λ_ _ _=>.mk _
def P106 : Pl :=.z
def S106 : tE1 Tryz.prog P106 106 :=λ_ _ _=>.mk _
def P107 : Pl :=.z
def S107 : tE3 Tryz.prog P107 107 :=λ_ _ _ _ _=>.mk _
def P108 : Pl :=.z
def S108 : tE3 Tryz.prog P108 108 :=λ_ _ _ _ _=>.mk _
def P109 : Pl :=(.n none .z (.n none (.r [[14,7]]) .z))
def S109 : tE2 Tryz.prog P109 109 :=λ_ _ _ _=>.mk _
def P110 : Pl :=(.n none .z (.n none (.r [[14,7]]) .z))
def S110 : tE2 Tryz.prog P110 110 :=λ_ _ _ _=>.mk _
def P111 : Pl :=.z
def S111 : tE3 Tryz.prog P111 111 :=λ_ _ _ _ _=>.mk _
def P112 : Pl :=(.n none .z (.n none (.r [[14,7]]) .z))
def S112 : tE2 Tryz.prog P112 112 :=λ_ _ _ _=>.mk _
def P113 : Pl :=(.n none .z (.n none (.n none .z (.n none (.n none (.r [[3,2]]) .z) .z)) (.n none (.n none (.n (some [0]) .z .z) .z) .z)))
def S113 : tE1 Tryz.prog P113 113 :=λ_ _ _=>.mk _
def P114 : Pl :=(.n none (.r [[0]]) .z)
def S114 : tE2 Tryz.prog P114 114 :=λ_ _ _ _=>.mk _
def P115 : Pl :=.z
def S115 : tE1 Tryz.prog P115 115 :=λ_ _ _=>.mk _
def P116 : Pl :=(.n none (.r [[1,0]]) .z)
def S116 : tE2 Tryz.prog P116 116 :=λ_ _ _ _=>.mk _
def P117 : Pl :=.z
def S117 : tE7 Tryz.prog P117 117 :=λ_ _ _ _ _ _ _ _ _=>.mk _
def P118 : Pl :=.z
def S118 : tE1 Tryz.prog P118 118 :=λ_ _ _=>.mk _
def P119 : Pl :=.z
def S119 : tE3 Tryz.prog P119 119 :=λ_ _ _ _ _=>.mk _
def P120 : Pl :=(.n none .z (.n (some []) (.n none .z (.n none .z (.n none .z (.n none .z (.n none .z (.n none .z (.n none .z (.n none (.r [[]]) .z)))))))) .z))
def S120 : tE1 Tryz.prog P120 120 :=λ_ _ _=>.mk _
def P121 : Pl :=.z
def S121 : tE1 Tryz.prog P121 121 :=λ_ _ _=>.mk _
def P122 : Pl :=(.n none .z (.n none (.r [[8,6]]) .z))
def S122 : tE1 Tryz.prog P122 122 :=λ_ _ _=>.mk _
def P123 : Pl :=.z
def S123 : tE1 Tryz.prog P123 123 :=λ_ _ _=>.mk _
def P124 : Pl :=(.n none .z (.n none .z (.n none (.n none .z (.n none (.n (some [14,13,12,6,5,1,0]) (.n none .z (.n none .z (.n none (.n (some [14,13,12,6,5,1,0]) .z .z) .z))) .z) .z)) .z)))
def S124 : tE2 Tryz.prog P124 124 :=λ_ _ _ _=>.mk _
def P125 : Pl :=.z
def S125 : tE1 Tryz.prog P125 125 :=λ_ _ _=>.mk _
def P126 : Pl :=(.n none .z (.n none (.r [[14,7]]) .z))
def S126 : tE2 Tryz.prog P126 126 :=λ_ _ _ _=>.mk _
def P127 : Pl :=(.n none .z (.n none (.n none (.n none .z (.n none .z (.n none (.r [[11,5,3,1]]) (.n none .z (.n none (.r [[33,29,5,1]]) (.n none .z (.n none (.r [[42,39]]) .z))))))) .z) .z))
def S127 : tE3 Tryz.prog P127 127 :=λ_ _ _ _ _=>.mk _
def P128 : Pl :=(.n none .z (.n (some [2,1,0]) .z (.n (some [0]) (.n none (.r [[19,17,1,0]]) .z) .z)))
def S128 : tE3 Tryz.prog P128 128 :=λ_ _ _ _ _=>.mk _
def P129 : Pl :=.z
def S129 : tE1 Tryz.prog P129 129 :=λ_ _ _=>.mk _
def P130 : Pl :=(.n none .z (.n none (.n none .z (.n none (.n (some [11,10,9,2,1]) (.n none .z (.n none .z (.n none (.n (some [11,10,9,2,1]) (.n none .z (.n none .z (.n none (.r [[33,26,11,10,9,7,6,2,1],[38,33,26,11,10,9,7,6,2,1],[39,26,11,10,9,7,6,2,1],[48,41,11,10,9,7,6,2,1],[58,48,41,11,10,9,6,2,1],[59,41,11,10,9,6,2,1]]) .z))) .z) .z))) .z) .z)) .z))
def S130 : tE2 Tryz.prog P130 130 :=λ_ _ _ _=>.mk _
def P131 : Pl :=(.n none .z (.n none .z (.n none .z (.n none (.n none .z (.n none (.n (some [14,13,12,4,3]) .z .z) .z)) .z))))
def S131 : tE1 Tryz.prog P131 131 :=λ_ _ _=>.mk _
def P132 : Pl :=.z
def S132 : tE1 Tryz.prog P132 132 :=λ_ _ _=>.mk _
def P133 : Pl :=.z
def S133 : tE1 Tryz.prog P133 133 :=λ_ _ _=>.mk _
def P134 : Pl :=.z
def S134 : tE2 Tryz.prog P134 134 :=λ_ _ _ _=>.mk _
def P135 : Pl :=(.n none .z (.n none .z (.n none (.n none .z (.n none (.n none .z (.n none (.n none (.r [[4]]) .z) (.n none .z (.n none (.n none (.r [[4]]) .z) (.n none .z (.n none (.n none (.r [[4]]) .z) (.n none .z (.n none (.n none (.r [[4]]) .z) (.n none .z (.n none (.n none (.r [[4]]) .z) (.n none .z (.n none (.n none (.r [[4]]) .z) (.n none .z (.n none .z (.n none .z (.n none .z (.n none .z (.n none (.n none (.r [[4]]) .z) (.n none .z (.n none (.n none (.r [[4]]) .z) (.n none .z (.n none (.n none (.r [[4]]) .z) .z)))))))))))))))))))))) .z)) .z)))
def S135 : tE2 Tryz.prog P135 135 :=λ_ _ _ _=>.mk _
def P136 : Pl :=(.n none .z (.n none (.n none .z (.n none (.n none .z (.n none (.n none .z (.n none .z (.n none .z (.n (some [10]) .z .z)))) (.n none .z (.n none .z (.n none .z (.n none (.n none .z (.n none .z (.n (some [15]) .z .z))) .z)))))) .z)) .z))
def S136 : tE4 Tryz.prog P136 136 :=λ_ _ _ _ _ _=>.mk _
def P137 : Pl :=(.n none .z (.n none (.n none .z (.n none (.n (some [7,6,3,0]) .z (.n none .z (.n (some [18,6,0]) .z .z))) .z)) .z))
def S137 : tE2 Tryz.prog P137 137 :=λ_ _ _ _=>.mk _
def P138 : Pl :=.z
def S138 : tE1 Tryz.prog P138 138 :=λ_ _ _=>.mk _
def P139 : Pl :=.z
def S139 : tE2 Tryz.prog P139 139 :=λ_ _ _ _=>.mk _
def P143 : Pl :=.z
def S143 : tE1 Tryz.prog P143 143 :=λ_ _ _=>.mk _
def P144 : Pl :=.z
def S144 : tE1 Tryz.prog P144 144 :=λ_ _ _=>.mk _
def P145 : Pl :=(.n none .z (.n none .z (.n none (.n none .z (.n none (.n (some [13,12,11,5,0]) .z .z) .z)) .z)))
def S145 : tE2 Tryz.prog P145 145 :=λ_ _ _ _=>.mk _
def P146 : Pl :=.z
def S146 : tE1 Tryz.prog P146 146 :=λ_ _ _=>.mk _
def P147 : Pl :=(.n none .z (.n none (.n none (.n none (.r [[9,7,0]]) (.n none .z (.n none (.r [[18,16,0]]) .z))) .z) .z))
def S147 : tE1 Tryz.prog P147 147 :=λ_ _ _=>.mk _
def P148 : Pl :=(.n none .z (.n none (.n none .z (.n none (.n (some [5,4,3]) .z .z) .z)) .z))
def S148 (c : CV) (a0 a1 : AV) (h : AH) : R :=
vH h 3 a1 λv0 h1=>
vH h1 23 (uU 0) λv2 h3=>
vH h3 4 (.bool false) λv4 h5=>
xU a0 λv6=>
ql v6 1 λv7=>
jq h5 v7 λv8=>
jO c (.fn 143 [] []) [v8] h5 λv9 h10=>
XK c v9 [.yield (h10.new .dfd).nx] ((h10.new .dfd).new (.loop .ready none 148 [1,0,1,0] [5,4,3] [v4,v2,v0] h10.nx)) λ_ h11=>
vN h11 (h10.new .dfd).nx λp13 h12=>
Xt p13 (
jC h12 v2 (uU 0) 1 λh14=>
jC h14 v4 (.bool false) 1 λh15=>
ze (h10.nx::[]) h15 λh16=>
jq h16 v2 λv17=>
jq h16 v4 λv18=>
some ((.tup [v17,v18]),h16))<|
pIs p13 .ret (
ze (h10.nx::[]) h12 λh19=>
jq h19 v2 λv20=>
jq h19 v4 λv21=>
some ((.tup [v20,v21]),h19))<|
none
def W148 : WF :=w_2 S148
theorem W148_ok : WOk Tryz.prog 148 W148 :=qZS (pl :=P148) λ_ _ _ _=>by kernel_rfl
end
end Go.Proofs.YtnalffoigcmnnabGreatDoor
