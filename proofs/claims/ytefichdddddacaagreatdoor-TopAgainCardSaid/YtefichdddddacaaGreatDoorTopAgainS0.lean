/- Printed by a program of mine: the bodies of the program's functions aa terms of the primitives of the abstract executor, each shown equal by the kernel. -/
import Derived.Test.YtefichdddddacaaGreatDoorProg
import Derived.Test.YtefichdddddacaaGreatDoorTopAgainAe1
import Derived.KernelRfl
namespace Go.Proofs.YtefichdddddacaaGreatDoor
open Go Go.Ae
abbrev uc : Type :=AV×AV×AV×AV×Unit
set_option maxRecDepth 100000
noncomputable section
attribute [local irreducible] zH vp gG xE qp Gw YB vG kU Yj Yx gP jj zi jP jb wm Vj ml GF pQ vM X9 Xd AG gJ yX gT xh Qx xq kl JA nq gc yR yZ Qv yN vC Z8 Up OB AJ Zg O8 ju yj J9 Ys Jr xL vY uO Xl Nb zl xd Xi AV.undef
set_option maxHeartbeats 40000000
def P3 : Pl :=(.n none .z (.n none .z (.n none .z (.n none .z (.n none .z (.n none (.n none .z (.n none (.n (some [10,9,8,7,2,1,0]) (.n none (.n none (.r [[25,23,10,9,8,7,2,1,0]]) .z) (.n none (.n none (.n none .z (.n none .z (.n none (.n none (.r [[42,40,12,11,10,9,8,7,2,1,0]]) .z) (.n (some [12,11,10,9,8,7,2,1,0]) .z .z)))) .z) .z)) .z) .z)) (.n none .z (.n none (.n none (.r [[76,73,13,8,7]]) .z) (.n none .z (.n none (.n none (.r [[90,85,15,14,13,8],[98,92,15,13],[104,100,15]]) .z) (.n none (.n none .z (.n none (.n (some [16,15]) (.n none .z (.n none (.n none (.n none (.r [[129,16,15]]) .z) .z) .z)) .z) .z)) .z)))))))))))
def S3 : cQ Tryz.prog P3 3 :=λ_ _ _ _ _=>.mk _
def P4 : Pl :=(.n none .z (.n none .z (.n none .z (.n none (.n none .z (.n none (.n (some [2,1]) .z .z) .z)) (.n none .z (.n none (.r [[30,26,4,1],[35,32,4,1],[42,37,1],[46,44,1],[52,48]]) .z))))))
def S4 (c : CV) (h : AH) : R :=
yR [(iI 0),(iI 0),(iI 0),(iI 0),(uU 0)] [(0,1,(iI 40)),(1,1,(iI 4))] λv0=>
yR [(iI 0),(iI 0),(iI 0),(iI 0),(uU 0),(iI 0),(iI 0),(iI 0)] [(0,5,v0),(6,1,(iI 9)),(7,1,(iI 20))] λv1=>
ju c (.fn 14 [] []) [(iI 6)] h λv2 h3=>
yZ h3 29 [.ak] 1 [(0,1,v2)] λv4 h5=>
yZ h5 24 [.ak] 1 [(0,1,v4)] λv6 h7=>
ju c (.fn 8 [] []) [v1,v6] h7 λv8 h9=>
ml .ptr false v8 .aO λv10=>
zH v10 (
some ((.bool false),h9)) (
Xi (σ :=AV×AV×Unit) NN (λi14 sQ la d13=>
jb .lss sQ.1 (iI 40) λpg=>
zH pg (
ju c (.fn 15 [] []) [sQ.2.1,(iI 0),(.int .u8 (.ofNat 0))] la λ_ ng=>
jb .add sQ.1 (iI 1) λmg=>
i14 (mg,sQ.2.1,()) ng d13) (
ju c (.fn 10 [] []) [sQ.2.1] la λoe nM=>
ju c (.fn 11 [] []) [sQ.2.1,(iI 0)] nM λv21 FC=>
kl oe λog=>
jb .eql og (iI 40) λv24=>
xd (α :=uc→AH→R) (λud ue=>
gG ud.2.1 ud.1 (.bool false) λv28=>
xd (α :=uc→AH→R) (λuf BQ=>
gG uf.2.1 uf.1 (.bool false) λrI=>
xd (α :=AV×AV×AV×Unit→AH→R) (λBR DE=>
gG BR.2.1 BR.1 (.bool false) λp8=>
xd (α :=AV×AV×AV×Unit→AH→R) (λek BS=>
gG ek.2.1 ek.1 (.bool false) λv40=>
xd (α :=AV×AV×Unit→AH→R) (λL4 DF=>
gG L4.2.1 L4.1 (.bool false) λug=>
zl d13 DF λDG=>
some (ug,DG)) λL5=>
vp v40 true (
ju c (.fn 17 [] []) [ek.2.2.1] BS λv46 FD=>
kl v46 λAb=>
jb .eql Ab (iI 1) λv49=>
L5 (v49,v40,()) FD) (
L5 (.undef,v40,()) BS)) λL6=>
vp p8 true (
ju c (.fn 16 [] []) [BR.2.2.1] DE λFE FF=>
L6 (FE,p8,BR.2.2.1,()) FF) (
L6 (.undef,p8,BR.2.2.1,()) DE)) λL7=>
vp rI true (
vG uf.2.2.1 (iI 0) 4 λBU=>
qp BU 2 λv53=>
jj BQ v53 λv54=>
Vj .eql v54 (.str [49]) λFG=>
L7 (FG,rI,uf.2.2.2.1,()) BQ) (
L7 (.undef,rI,uf.2.2.2.1,()) BQ)) λj31=>
vp v28 true (
kl ud.2.2.1 λFH=>
jb .eql FH (iI 1) λBV=>
j31 (BV,v28,ud.2.2.1,ud.2.2.2.1,()) ue) (
j31 (.undef,v28,ud.2.2.1,ud.2.2.2.1,()) ue)) λj27=>
vp v24 true (
vG oe (iI 6) 1 λAc=>
jj FC Ac λv59=>
jb .eql v59 (uU 1) λFI=>
j27 (FI,v24,v21,sQ.2.1,()) FC) (
j27 (.undef,v24,v21,sQ.2.1,()) FC))) ((iI 0),v8,()) h9 [])
def W4 : WF :=Dh S4
theorem W4_ok : fc Tryz.prog 4 W4 :=IH (pl :=P4) λ_ _=>by kernel_rfl
def P5 : Pl :=(.n none .z (.n none .z (.n none (.n none .z (.n none (.n (some [3,0]) .z .z) .z)) .z)))
def S5 : aU Tryz.prog P5 5 :=λ_ _ _=>.mk _
def P6 : Pl :=(.n none .z (.n none (.n none (.r [[7,5,0]]) .z) .z))
def S6 : aU Tryz.prog P6 6 :=λ_ _ _=>.mk _
def P7 : Pl :=.z
def S7 : ij Tryz.prog P7 7 :=λ_ _ _ _ _ _=>.mk _
def P8 : Pl :=(.n none .z (.n none .z (.n none .z (.n none .z (.n none (.r [[5,2,1]]) (.n none (.n none .z (.n none (.n (some [32,31,30,5,2,1]) (.n none .z (.n none .z (.n none (.n (some [32,31,30,5,2,1]) .z .z) .z))) .z) .z)) (.n none (.n none .z (.n none (.n (some [51,50,5,2,1]) (.n none .z (.n none .z (.n none (.n none (.n none .z (.n none .z (.n (some [51,50,9,8,5,2,1]) .z (.r [[51,50,5,2,1]])))) .z) .z))) .z) .z)) .z)))))))
def S8 : bE Tryz.prog P8 8 :=λ_ _ _ _=>.mk _
def P9 : Pl :=(.n none .z (.n none (.n none .z (.n none (.n (some [5,1,0]) (.n none .z (.n none (.n none (.n none .z (.n none .z (.n (some [6,5,1,0]) .z (.n none .z (.n none (.n (some [7,6,5,1,0]) .z .z) .z))))) .z) .z)) .z) .z)) .z))
def S9 : bE Tryz.prog P9 9 :=λ_ _ _ _=>.mk _
def P10 : Pl :=.z
def S10 : aU Tryz.prog P10 10 :=λ_ _ _=>.mk _
def P11 : Pl :=.z
def S11 : bE Tryz.prog P11 11 :=λ_ _ _ _=>.mk _
def P12 : Pl :=.z
def S12 : bE Tryz.prog P12 12 :=λ_ _ _ _=>.mk _
def P13 : Pl :=(.n none .z (.n none .z (.n none (.n none (.n (some [3,0]) .z .z) .z) .z)))
def S13 : aU Tryz.prog P13 13 :=λ_ _ _=>.mk _
def P14 : Pl :=.z
def S14 : aU Tryz.prog P14 14 :=λ_ _ _=>.mk _
def P15 : Pl :=(.n none .z (.n none (.n none (.r [[19,12,2,1,0]]) .z) (.n none .z (.n none .z (.n none .z (.n none .z (.n none (.r [[1,0]]) (.n none .z (.n none (.n none .z (.n none (.n (some [80,79,78,1,0]) (.n none .z (.n none .z (.n none (.n (some [80,79,78,1,0]) .z .z) .z))) .z) .z)) .z)))))))))
def S15 : cQ Tryz.prog P15 15 :=λ_ _ _ _ _=>.mk _
def P16 : Pl :=(.n none .z (.n none (.n none .z (.n none (.n (some [11,10,9]) (.n none .z (.n none .z (.n none (.n none (.n none .z (.n none .z (.n none (.r [[21,19,11,10,9]]) .z))) .z) .z))) .z) .z)) .z))
def S16 : aU Tryz.prog P16 16 :=λ_ _ _=>.mk _
def P17 : Pl :=(.n none .z (.n none .z (.n none (.n none .z (.n none (.n (some [11,10,9,3]) .z .z) .z)) .z)))
def S17 : aU Tryz.prog P17 17 :=λ_ _ _=>.mk _
def P18 : Pl :=(.n none .z (.n none (.r [[2]]) .z))
def S18 : aU Tryz.prog P18 18 :=λ_ _ _=>.mk _
def P19 : Pl :=(.n none .z (.n none .z (.n none (.r [[2]]) .z)))
def S19 : aU Tryz.prog P19 19 :=λ_ _ _=>.mk _
def P20 : Pl :=.z
def S20 : aU Tryz.prog P20 20 :=λ_ _ _=>.mk _
def P21 : Pl :=(.n none .z (.n none .z (.n (some [5,4]) .z .z)))
def S21 : bE Tryz.prog P21 21 :=λ_ _ _ _=>.mk _
def P22 : Pl :=(.n none .z (.n none .z (.n none (.r [[7,2]]) (.n none (.n none .z (.n none (.n (some [29,28,27,7]) (.n none .z (.n none .z (.n none (.n none (.n none .z (.r [[29,28,27,7]])) .z) .z))) .z) .z)) .z))))
def S22 : cQ Tryz.prog P22 22 :=λ_ _ _ _ _=>.mk _
def P23 : Pl :=.z
def S23 : aU Tryz.prog P23 23 :=λ_ _ _=>.mk _
def P24 : Pl :=.z
def S24 : aU Tryz.prog P24 24 :=λ_ _ _=>.mk _
def P25 : Pl :=(.n none .z (.n none (.n none (.r [[14,7,1,0]]) .z) .z))
def S25 : bE Tryz.prog P25 25 :=λ_ _ _ _=>.mk _
def P26 : Pl :=.z
def S26 : aU Tryz.prog P26 26 :=λ_ _ _=>.mk _
def P27 : Pl :=(.n none .z (.n none (.r [[2]]) .z))
def S27 : aU Tryz.prog P27 27 :=λ_ _ _=>.mk _
def P28 : Pl :=.z
def S28 : aU Tryz.prog P28 28 :=λ_ _ _=>.mk _
def P29 : Pl :=.z
def S29 : aU Tryz.prog P29 29 :=λ_ _ _=>.mk _
def P30 : Pl :=(.n none .z (.n none .z (.n (some []) (.n none .z (.n none (.n none .z (.n none .z (.n (some [3,2,0]) (.n none .z (.n none (.r [[43,41,3,2,0]]) .z)) .z))) (.n none .z (.n none .z (.n none .z (.n none (.n (some [5,0]) .z .z) .z)))))) .z)))
def S30 : ij Tryz.prog P30 30 :=λ_ _ _ _ _ _=>.mk _
def P31 : Pl :=(.n none .z (.n none .z (.n none (.n (some [19,18,17,2,1,0]) (.n none .z (.n none .z (.n none (.n none (.n none .z (.n none (.n none (.r [[31,27,19,18,17,2,1,0]]) .z) (.n (some []) (.n none .z (.n none .z (.n none (.r [[50,45,0]]) .z))) .z))) .z) .z))) .z) .z)))
def S31 : cQ Tryz.prog P31 31 :=λ_ _ _ _ _=>.mk _
def P32 : Pl :=.z
def S32 : aU Tryz.prog P32 32 :=λ_ _ _=>.mk _
def P33 : Pl :=(.n none .z (.n none .z (.n none (.n none .z (.n none (.n (some [13,12,11,3,0]) .z .z) .z)) (.n (some [3]) .z .z))))
def S33 : aU Tryz.prog P33 33 :=λ_ _ _=>.mk _
def P34 : Pl :=.z
def S34 : aU Tryz.prog P34 34 :=λ_ _ _=>.mk _
def P35 : Pl :=.z
def S35 : aU Tryz.prog P35 35 :=λ_ _ _=>.mk _
def P36 : Pl :=.z
def S36 : bE Tryz.prog P36 36 :=λ_ _ _ _=>.mk _
def P37 : Pl :=.z
def S37 : aU Tryz.prog P37 37 :=λ_ _ _=>.mk _
def P38 : Pl :=.z
def S38 : aU Tryz.prog P38 38 :=λ_ _ _=>.mk _
def P39 : Pl :=(.n none .z (.n none .z (.n none (.n none .z (.n (some [5,4]) .z .z)) .z)))
def S39 : bE Tryz.prog P39 39 :=λ_ _ _ _=>.mk _
def P40 : Pl :=.z
def S40 : uQ Tryz.prog P40 40 :=λ_ _=>.mk _
def P41 : Pl :=.z
def S41 : aU Tryz.prog P41 41 :=λ_ _ _=>.mk _
def P42 : Pl :=.z
def S42 : aU Tryz.prog P42 42 :=λ_ _ _=>.mk _
def P43 : Pl :=.z
def S43 : aU Tryz.prog P43 43 :=λ_ _ _=>.mk _
def P44 : Pl :=.z
def S44 : aU Tryz.prog P44 44 :=λ_ _ _=>.mk _
def P45 : Pl :=.z
def S45 : aU Tryz.prog P45 45 :=λ_ _ _=>.mk _
def P46 : Pl :=.z
def S46 (c : CV) (a0 : AV) (h : AH) : R :=
gc h 64 (.agg [(iI 0),(iI 0),(uU 0),(uU 0),(uU 0),(.bool false),(iI 0),(uU 0),(.bool false),(iI 0)]) λv0 h1=>
xE a0 λv2=>
qp v2 14 λv3=>
jj h1 v3 λv4=>
jb .eql v4 (iI 0) λv5=>
zH v5 (
xE a0 λv6=>
qp v6 0 λv7=>
jj h1 v7 λv8=>
yR [(iI 0),(iI 0),(uU 0),(uU 0),(uU 0),(.bool false),(iI 0),(uU 0),(.bool false),(iI 0)] [(0,1,(iI 9)),(1,1,v8),(3,1,(uU 1))] λv9=>
jP h1 v0 v9 10 λdR=>
zi dR v0 10 λv11=>
some ((.bM [v11,(.bool true)]),dR)) (
jb .eql v4 (iI 1) λv12=>
zH v12 (
yR [(iI 0),(iI 0),(uU 0),(uU 0),(uU 0),(.bool false),(iI 0),(uU 0),(.bool false),(iI 0)] [(0,1,(iI 6))] λph=>
jP h1 v0 ph 10 λrJ=>
zi rJ v0 10 λpg=>
some ((.bM [pg,(.bool true)]),rJ)) (
jb .eql v4 (iI 2) λpj=>
zH pj (
xE a0 λnN=>
qp nN 0 λmg=>
jj h1 mg λoe=>
xE a0 λv20=>
qp v20 21 λv21=>
jj h1 v21 λv22=>
jb .add v22 (uU 1) λog=>
yR [(iI 0),(iI 0),(uU 0),(uU 0),(uU 0),(.bool false),(iI 0),(uU 0),(.bool false),(iI 0)] [(0,1,(iI 9)),(1,1,oe),(3,1,og)] λv24=>
jP h1 v0 v24 10 λL8=>
zi L8 v0 10 λrK=>
some ((.bM [rK,(.bool true)]),L8)) (
jb .eql v4 (iI 7) λuh=>
zH uh (
xE a0 λv28=>
qp v28 0 λFJ=>
jj h1 FJ λv30=>
yR [(iI 0),(iI 0),(uU 0),(uU 0),(uU 0),(.bool false),(iI 0),(uU 0),(.bool false),(iI 0)] [(0,1,(iI 9)),(1,1,v30)] λv31=>
jP h1 v0 v31 10 λui=>
zi ui v0 10 λrL=>
some ((.bM [rL,(.bool true)]),ui)) (
jb .eql v4 (iI 8) λFK=>
zH FK (
yR [(iI 0),(iI 0),(uU 0),(uU 0),(uU 0),(.bool false),(iI 0),(uU 0),(.bool false),(iI 0)] [] λAd=>
jP h1 v0 Ad 10 λL9=>
zi L9 v0 10 λv37=>
some ((.bM [v37,(.bool false)]),L9)) (
xE a0 λBW=>
qp BW 15 λFM=>
jj h1 FM λv40=>
yj c [(71,28),(96,46),(148,352),(149,360),(150,363),(358,295)] v40 [] h1 λAf DF=>
xq Af 0 λuj=>
xq Af 1 λug=>
jP DF v0 uj 10 λDG=>
zi DG v0 10 λv46=>
some ((.bM [v46,ug]),DG))))))
def W46 : WF :=sj S46
theorem W46_ok : fc Tryz.prog 46 W46 :=Gc (pl :=P46) λ_ _ _=>by kernel_rfl
def P47 : Pl :=(.n none .z (.n none (.n (some [0]) (.n none .z (.n none .z (.n none .z (.n none (.n none .z (.n none (.n none .z (.n none (.n (some [62,61,60,2,0]) .z .z) .z)) .z)) .z)))) .z) .z))
def S47 : aU Tryz.prog P47 47 :=λ_ _ _=>.mk _
def P48 : Pl :=.z
def S48 : aU Tryz.prog P48 48 :=λ_ _ _=>.mk _
def P49 : Pl :=(.n none .z (.n none .z (.n none .z (.n none .z (.n (some []) (.n none .z (.n none .z (.n none .z (.n none (.n none (.r [[0]]) .z) .z)))) .z)))))
def S49 (c : CV) (a0 a1 : AV) (h : AH) : R :=
gc h 69 a1 λv0 h1=>
xE a0 λv2=>
qp v2 14 λv3=>
jj h1 v3 λv4=>
jb .eql v4 (iI 8) λv5=>
zH v5 (
some ((.bM []),h1)) (
qp v0 5 λv6=>
jj h1 v6 λv7=>
jb .neq v7 (iI 0) λv8=>
zH v8 (
qp v0 5 λv9=>
jj h1 v9 λv10=>
ju c (.fn 72 [] []) [a0,(iI 4),v10,(.int .i64 (.negSucc 0))] h1 λ_ la=>
xE a0 λph=>
qp ph 14 λrM=>
jP la rM (iI 8) 1 λoh=>
some ((.bM []),oh)) (
xE a0 λpj=>
qp pj 14 λnN=>
jj h1 nN λmg=>
xd (α :=Unit→AH→List Nat→R) (λ_ nM d21=>
zl d21 nM λAg=>
some ((.bM []),Ag)) λj22=>
jb .eql mg (iI 0) λv24=>
zH v24 (
xE a0 λol=>
qp ol 14 λrK=>
jP h1 rK (iI 1) 1 λuk=>
j22 (()) uk []) (
jb .eql mg (iI 1) λv28=>
zH v28 (
xd (α :=AV×Unit→AH→R) (λuf BQ=>
xE uf.1 λrI=>
qp rI 14 λrL=>
jP BQ rL (iI 2) 1 λDE=>
j22 (()) DE []) λj31=>
qp v0 0 λAd=>
jj h1 Ad λp8=>
qp v0 0 λv37=>
jj h1 v37 λBW=>
xE a0 λFM=>
qp FM 19 λv40=>
jP h1 v40 (.bool true) 1 λDH=>
xE a0 λAh=>
qp Ah 20 λuj=>
jP DH uj p8 1 λFN=>
xE a0 λBX=>
qp BX 21 λv46=>
jP FN v46 BW 1 λFD=>
Ys v37 none BW DH FN h1.nx<|
Ys v37 none BW h1 DH h1.nx<|
Ys Ad none p8 h1 DH h1.nx<|
j31 (a0,()) FD) (
jb .eql mg (iI 2) λAb=>
zH Ab (
ju c (.fn 73 [] []) [a0] h1 λ_ Pa=>
j22 (()) Pa []) (
jb .eql mg (iI 7) λv51=>
zH v51 (
xE a0 λBU=>
qp BU 14 λv53=>
jP h1 v53 (iI 8) 1 λDI=>
j22 (()) DI []) (
xE a0 λFG=>
qp FG 15 λFH=>
jj h1 FH λBV=>
zi h1 v0 6 λAc=>
yj c [(71,30),(96,49),(148,353),(149,361),(150,364)] BV [Ac] h1 λ_ h60=>
ju c (.fn 74 [] []) [a0] h60 λ_ h62=>
j22 (()) h62 []))))))
def W49 : WF :=AP S49
theorem W49_ok : fc Tryz.prog 49 W49 :=Ej (pl :=P49) λ_ _ _ _=>by kernel_rfl
def P50 : Pl :=.z
def S50 : aU Tryz.prog P50 50 :=λ_ _ _=>.mk _
def P51 : Pl :=(.n none .z (.n none (.r [[6,1,0]]) (.n none .z (.n (some []) (.n none .z (.n none (.n none .z (.n none (.n none (.r [[87,6,1,0]]) .z) .z)) (.n none .z (.n none .z (.n none .z (.n none .z (.n none (.r [[6,0]]) (.n none (.r [[0]]) .z)))))))) .z))))
def S51 : cQ Tryz.prog P51 51 :=λ_ _ _ _ _=>.mk _
def P52 : Pl :=(.n none .z (.n none (.n none (.r [[12,9,4,2,0],[20,14,4,2,0],[27,20,14,4,2,0],[28,14,4,2,0]]) (.n none (.n none (.r [[]]) .z) .z)) .z))
def S52 : cQ Tryz.prog P52 52 :=λ_ _ _ _ _=>.mk _
def P53 : Pl :=.z
def S53 : bE Tryz.prog P53 53 :=λ_ _ _ _=>.mk _
def P54 : Pl :=.z
def S54 : aU Tryz.prog P54 54 :=λ_ _ _=>.mk _
def P55 : Pl :=(.n none .z (.n none (.r [[12,8]]) .z))
def S55 : aU Tryz.prog P55 55 :=λ_ _ _=>.mk _
def P56 : Pl :=(.n none .z (.n none (.r [[2,1]]) .z))
def S56 : aU Tryz.prog P56 56 :=λ_ _ _=>.mk _
def P57 : Pl :=(.n none .z (.n none .z (.n none .z (.n none .z (.n (some [8,6,5,4,1,0]) .z (.n none (.r [[4]]) .z))))))
def S57 : bE Tryz.prog P57 57 :=λ_ _ _ _=>.mk _
def P58 : Pl :=.z
def S58 : bE Tryz.prog P58 58 :=λ_ _ _ _=>.mk _
def P59 : Pl :=.z
def S59 : bE Tryz.prog P59 59 :=λ_ _ _ _=>.mk _
def P60 : Pl :=.z
def S60 : cQ Tryz.prog P60 60 :=λ_ _ _ _ _=>.mk _
def P61 : Pl :=.z
def S61 : bE Tryz.prog P61 61 :=λ_ _ _ _=>.mk _
def P62 : Pl :=.z
def S62 (c : CV) (a0 a1 a2 a3 : AV) (h : AH) : R :=
gc h 62 a2 λv0 h1=>
gc h1 62 a3 λv2 h3=>
zi h3 v2 3 λv4=>
ju c (.fn 93 [] []) [a0,a1,v4] h3 λv5 h6=>
jb .neq v5 (iI 0) λv7=>
zH v7 (
some ((.bM [(.bool false),v5]),h6)) (
xE a0 λv8=>
qp v8 0 λv9=>
jj h6 v9 λv10=>
vG v10 a1 3 λv11=>
zi h6 v11 3 λv12=>
zi h6 v0 3 λph=>
GF [.lD .int 0,.lD .bool 1,.lD .int 2] true v12 ph λrM=>
zH rM (
some ((.bM [(.bool false),(iI 0)]),h6)) (
xE a0 λpg=>
qp pg 0 λpj=>
jj h6 pj λnN=>
zi h6 v2 3 λmg=>
vG nN a1 3 λoe=>
jP h6 oe mg 3 λnM=>
some ((.bM [(.bool true),(iI 0)]),nM)))
def W62 : WF :=Ek S62
theorem W62_ok : fc Tryz.prog 62 W62 :=qga (pl :=P62) λ_ _ _ _ _ _=>by kernel_rfl
def P63 : Pl :=(.n none .z (.n none .z (.n (some [7]) .z .z)))
def S63 : cQ Tryz.prog P63 63 :=λ_ _ _ _ _=>.mk _
def P64 : Pl :=.z
def S64 : aU Tryz.prog P64 64 :=λ_ _ _=>.mk _
def P65 : Pl :=.z
def S65 : cQ Tryz.prog P65 65 :=λ_ _ _ _ _=>.mk _
def P66 : Pl :=.z
def S66 : bE Tryz.prog P66 66 :=λ_ _ _ _=>.mk _
def P67 : Pl :=.z
def S67 : cQ Tryz.prog P67 67 :=λ_ _ _ _ _=>.mk _
def P68 : Pl :=.z
def S68 : aU Tryz.prog P68 68 :=λ_ _ _=>.mk _
def P69 : Pl :=.z
def S69 : aU Tryz.prog P69 69 :=λ_ _ _=>.mk _
def P70 : Pl :=.z
def S70 : cQ Tryz.prog P70 70 :=λ_ _ _ _ _=>.mk _
def P71 : Pl :=.z
def S71 : cQ Tryz.prog P71 71 :=λ_ _ _ _ _=>.mk _
def P72 : Pl :=.z
def S72 : ij Tryz.prog P72 72 :=λ_ _ _ _ _ _=>.mk _
def P73 : Pl :=(.n none .z (.n none .z (.n (some []) (.n none .z (.n none .z (.n none .z (.n none .z (.n none .z (.n none .z (.n none .z (.n none .z (.n none (.r [[0]]) .z))))))))) .z)))
def S73 : aU Tryz.prog P73 73 :=λ_ _ _=>.mk _
def P74 : Pl :=(.n none (.n none .z (.n (some [0]) .z .z)) .z)
def S74 (c : CV) (a0 : AV) (h : AH) : R :=
xE a0 λv0=>
qp v0 15 λv1=>
jj h v1 λv2=>
yj c [(96,50),(148,161),(149,166),(150,114),(249,140)] v2 [] h λv3 h4=>
xd (α :=AV×Unit→AH→List Nat→R) (λs5 h6 d7=>
ju c (.fn 88 [] []) [s5.1] h6 λv9 dR=>
zH v9 (
xE s5.1 λv11=>
qp v11 18 λv12=>
jj dR v12 λph=>
ju c (.fn 105 [] []) [ph] dR λrM oh=>
xE s5.1 λpj=>
qp pj 21 λnN=>
jP oh nN rM 1 λAi=>
zl d7 Ai λBY=>
some ((.bM []),BY)) (
zl d7 dR λnM=>
some ((.bM []),nM))) λj8=>
jb .eql v3 (iI 0) λv21=>
zH v21 (
j8 (a0,()) h4 []) (
jb .eql v3 (iI 5) λv22=>
zH v22 (
xE a0 λog=>
qp og 15 λv24=>
jj h4 v24 λol=>
yj c [(96,75),(148,351),(149,359),(150,362),(249,354)] ol [] h4 λrK uk=>
ju c (.fn 72 [] []) [a0,(iI 5),(iI 0),rK] uk λ_ ra=>
j8 (a0,()) ra []) (
ju c (.fn 104 [] []) [a0] h4 λ_ h31=>
j8 (a0,()) h31 []))
def W74 : WF :=sj S74
theorem W74_ok : fc Tryz.prog 74 W74 :=Gc (pl :=P74) λ_ _ _=>by kernel_rfl
def P75 : Pl :=.z
def S75 : aU Tryz.prog P75 75 :=λ_ _ _=>.mk _
def P76 : Pl :=(.n none .z (.n none (.n none .z (.n none (.n (some [11,10,4,1,0]) .z .z) .z)) .z))
def S76 : bE Tryz.prog P76 76 :=λ_ _ _ _=>.mk _
def P77 : Pl :=(.n (some [0]) (.n none .z (.n none (.n none .z (.n none (.n (some [14,13,12,0]) .z .z) .z)) .z)) .z)
def S77 : bE Tryz.prog P77 77 :=λ_ _ _ _=>.mk _
def P78 : Pl :=.z
def S78 : aU Tryz.prog P78 78 :=λ_ _ _=>.mk _
def P79 : Pl :=(.n none .z (.n none (.n none (.r [[11,6,0]]) .z) .z))
def S79 : aU Tryz.prog P79 79 :=λ_ _ _=>.mk _
def P80 : Pl :=.z
def S80 : aU Tryz.prog P80 80 :=λ_ _ _=>.mk _
def P81 : Pl :=(.n none .z (.n none (.n (some [10,9,8,1,0]) .z .z) .z))
def S81 : cQ Tryz.prog P81 81 :=λ_ _ _ _ _=>.mk _
def P82 : Pl :=.z
def S82 : aU Tryz.prog P82 82 :=λ_ _ _=>.mk _
def P83 : Pl :=.z
def S83 : aU Tryz.prog P83 83 :=λ_ _ _=>.mk _
def P84 : Pl :=(.n (some [0]) .z .z)
def S84 : aU Tryz.prog P84 84 :=λ_ _ _=>.mk _
def P85 : Pl :=.z
def S85 : aU Tryz.prog P85 85 :=λ_ _ _=>.mk _
def P86 : Pl :=.z
def S86 : aU Tryz.prog P86 86 :=λ_ _ _=>.mk _
def P87 : Pl :=.z
def S87 : aU Tryz.prog P87 87 :=λ_ _ _=>.mk _
def P88 : Pl :=(.n none .z (.n none (.r [[13,8,0],[21,15,0],[27,21,15],[28,15]]) .z))
def S88 : aU Tryz.prog P88 88 :=λ_ _ _=>.mk _
def P89 : Pl :=.z
def S89 : aU Tryz.prog P89 89 :=λ_ _ _=>.mk _
def P90 : Pl :=.z
def S90 : aU Tryz.prog P90 90 :=λ_ _ _=>.mk _
def P91 : Pl :=(.n none .z (.n none (.r [[14,7]]) .z))
def S91 : bE Tryz.prog P91 91 :=λ_ _ _ _=>.mk _
def P92 : Pl :=(.n none .z (.n none (.r [[14,7]]) .z))
def S92 : bE Tryz.prog P92 92 :=λ_ _ _ _=>.mk _
def P93 : Pl :=.z
def S93 : cQ Tryz.prog P93 93 :=λ_ _ _ _ _=>.mk _
def P94 : Pl :=(.n none .z (.n none (.r [[14,7]]) .z))
def S94 : bE Tryz.prog P94 94 :=λ_ _ _ _=>.mk _
def P95 : Pl :=(.n none .z (.n none .z (.n none (.r [[4]]) .z)))
def S95 : bE Tryz.prog P95 95 :=λ_ _ _ _=>.mk _
def P96 : Pl :=(.n none .z (.n none .z (.n none .z (.n none (.r [[6]]) .z))))
def S96 : cQ Tryz.prog P96 96 :=λ_ _ _ _ _=>.mk _
def P97 : Pl :=(.n none .z (.n none (.n none .z (.n none (.n none (.r [[3,2]]) .z) .z)) (.n none (.n none (.n (some [0]) .z .z) .z) .z)))
def S97 : aU Tryz.prog P97 97 :=λ_ _ _=>.mk _
def P98 : Pl :=(.n none (.r [[0]]) .z)
def S98 : bE Tryz.prog P98 98 :=λ_ _ _ _=>.mk _
def P99 : Pl :=.z
def S99 : aU Tryz.prog P99 99 :=λ_ _ _=>.mk _
def P100 : Pl :=(.n none (.r [[1,0]]) .z)
def S100 : bE Tryz.prog P100 100 :=λ_ _ _ _=>.mk _
def P101 : Pl :=.z
def S101 : aU Tryz.prog P101 101 :=λ_ _ _=>.mk _
def P102 : Pl :=.z
def S102 : De Tryz.prog P102 102 :=λ_ _ _ _ _ _ _ _ _=>.mk _
def P103 : Pl :=.z
def S103 : cQ Tryz.prog P103 103 :=λ_ _ _ _ _=>.mk _
def P104 : Pl :=(.n none .z (.n (some []) (.n none .z (.n none .z (.n none .z (.n none .z (.n none .z (.n none .z (.n none .z (.n none (.r [[]]) .z)))))))) .z))
def S104 : aU Tryz.prog P104 104 :=λ_ _ _=>.mk _
def P105 : Pl :=.z
def S105 : aU Tryz.prog P105 105 :=λ_ _ _=>.mk _
def P106 : Pl :=(.n none .z (.n none (.r [[8,6]]) .z))
def S106 : aU Tryz.prog P106 106 :=λ_ _ _=>.mk _
def P107 : Pl :=.z
def S107 : aU Tryz.prog P107 107 :=λ_ _ _=>.mk _
def P108 : Pl :=(.n none .z (.n none .z (.n none (.n none .z (.n none (.n (some [17,16,15,3]) .z .z) .z)) .z)))
def S108 (c : CV) (a0 : AV) (h : AH) : R :=
xE a0 λv0=>
qp v0 0 λv1=>
jj h v1 λv2=>
kl v2 λv3=>
Qv h 9 [(.str [])] v3 v3 λv4 h5=>
xE a0 λv6=>
qp v6 0 λv7=>
jj h5 v7 λv8=>
kl v8 λv9=>
Xi (σ :=uc) NN (λi13 fi cD d12=>
jb .lss fi.1 fi.2.1 λrM=>
zH rM (
vG fi.2.2.1 fi.1 1 λpg=>
jj cD pg λpj=>
ju c (.fn 136 [] []) [pj] cD λnN Ai=>
vG fi.2.2.2.1 fi.1 1 λoe=>
jP Ai oe nN 1 λnM=>
jb .add fi.1 (iI 1) λv21=>
i13 (v21,fi.2.1,fi.2.2.1,fi.2.2.2.1,()) nM d12) (
ju c (.fn 137 [] []) [fi.2.2.2.1,(.str [32])] cD λv22 Ag=>
zl d12 Ag λFO=>
some (v22,FO))) ((iI 0),v9,v8,v4,()) h5 []
def W108 : WF :=sj S108
theorem W108_ok : fc Tryz.prog 108 W108 :=Gc (pl :=P108) λ_ _ _=>by kernel_rfl
def P109 : Pl :=.z
def S109 : aU Tryz.prog P109 109 :=λ_ _ _=>.mk _
def P110 : Pl :=.z
def S110 : aU Tryz.prog P110 110 :=λ_ _ _=>.mk _
def P111 : Pl :=(.n none .z (.n none .z (.n none (.n none .z (.n none (.n (some [14,13,12,6,5,1,0]) (.n none .z (.n none .z (.n none (.n (some [14,13,12,6,5,1,0]) .z .z) .z))) .z) .z)) .z)))
def S111 : bE Tryz.prog P111 111 :=λ_ _ _ _=>.mk _
def P112 : Pl :=.z
def S112 : aU Tryz.prog P112 112 :=λ_ _ _=>.mk _
def P113 : Pl :=(.n none .z (.n none (.r [[10,7]]) .z))
def S113 : aU Tryz.prog P113 113 :=λ_ _ _=>.mk _
def P114 : Pl :=.z
def S114 : aU Tryz.prog P114 114 :=λ_ _ _=>.mk _
def P115 : Pl :=(.n none .z (.n none .z (.n none (.n none .z (.n none (.n (some [17,16,15,3,0]) .z .z) .z)) .z)))
def S115 : aU Tryz.prog P115 115 :=λ_ _ _=>.mk _
def P116 : Pl :=(.n none .z (.n none (.n none .z (.n none (.n none (.r [[11,8]]) .z) .z)) (.n none (.r [[19,16]]) .z)))
def S116 : aU Tryz.prog P116 116 :=λ_ _ _=>.mk _
def P117 : Pl :=.z
def S117 : bE Tryz.prog P117 117 :=λ_ _ _ _=>.mk _
def P118 : Pl :=.z
def S118 : aU Tryz.prog P118 118 :=λ_ _ _=>.mk _
def P119 : Pl :=(.n none .z (.n none (.n none (.r [[16,12,1]]) .z) (.n none .z (.n none (.n none .z (.n none (.n (some [21,20,19,4,1]) .z .z) .z)) (.n none .z (.n none (.r [[3,2]]) .z))))))
def S119 : aU Tryz.prog P119 119 :=λ_ _ _=>.mk _
def P120 : Pl :=(.n none .z (.n none .z (.n none .z (.n none .z (.n none (.n none .z (.n none (.n (some [27,26,6,5,1]) .z .z) .z)) (.n none (.n none .z (.n none (.n (some [37,36,35,6,5,1]) (.n none .z (.n none .z (.n none (.n (some [37,36,35,6,5,1]) .z .z) .z))) .z) .z)) (.n none (.n none .z (.n none (.n (some [57,56,55,6,5]) (.n none .z (.n none .z (.n none (.n (some [57,56,55,6,5]) .z .z) .z))) .z) .z)) .z)))))))
def S120 : aU Tryz.prog P120 120 :=λ_ _ _=>.mk _
def P121 : Pl :=.z
def S121 : uQ Tryz.prog P121 121 :=λ_ _=>.mk _
def P122 : Pl :=(.n none .z (.n none (.n none (.n (some [0]) (.n none .z (.n (some [0]) (.n none .z (.n none .z (.n none .z (.n none .z (.n (some [0]) .z .z))))) .z)) .z) .z) .z))
def S122 : aU Tryz.prog P122 122 :=λ_ _ _=>.mk _
def P123 : Pl :=.z
def S123 : aU Tryz.prog P123 123 :=λ_ _ _=>.mk _
def P124 : Pl :=(.n none .z (.n none .z (.n (some [7,5,1,0]) (.n none (.r [[19,18,7,5,1,0]]) .z) .z)))
def S124 : bE Tryz.prog P124 124 :=λ_ _ _ _=>.mk _
def P125 : Pl :=.z
def S125 : ot Tryz.prog P125 125 :=λ_ _ _ _ _ _ _=>.mk _
def P126 : Pl :=.z
def S126 : cQ Tryz.prog P126 126 :=λ_ _ _ _ _=>.mk _
def P127 : Pl :=.z
def S127 : cQ Tryz.prog P127 127 :=λ_ _ _ _ _=>.mk _
def P128 : Pl :=(.n none .z (.n none .z (.n none (.n none .z (.n none (.n (some [3]) .z .z) .z)) .z)))
def S128 (c : CV) (a0 : AV) (h : AH) : R :=
gc h 111 .ak λv0 h1=>
xE a0 λv2=>
qp v2 1 λv3=>
jj h1 v3 λv4=>
ju c (.fn 155 [] []) [v4] h1 λv5 h6=>
J9 c v5 [.yield (h6.new .hZ).nx] ((h6.new .hZ).new (.loop .ready none 128 [1,1,0,1,0] [3] [v0] h6.nx)) λ_ h7=>
vY h7 (h6.new .hZ).nx λp9 h8=>
Xl p9 (
jj h8 v0 λv10=>
zl (h6.nx::[]) h8 λcD=>
some (v10,cD))<|
none
def W128 : WF :=sj S128
theorem W128_ok : fc Tryz.prog 128 W128 :=Gc (pl :=P128) λ_ _ _=>by kernel_rfl
def P129 : Pl :=.z
def S129 : bE Tryz.prog P129 129 :=λ_ _ _ _=>.mk _
def P130 : Pl :=(.n none .z (.n none .z (.n none (.n none .z (.n none (.n (some [13,12,11,7,2,1]) (.n none .z (.n none .z (.n none (.n (some [13,12,11,7,2,1]) .z .z) .z))) .z) .z)) .z)))
def S130 : cQ Tryz.prog P130 130 :=λ_ _ _ _ _=>.mk _
def P131 : Pl :=.z
def S131 : aU Tryz.prog P131 131 :=λ_ _ _=>.mk _
def P132 : Pl :=(.n none .z (.n none (.r [[2,0]]) (.n none .z (.n (some []) (.n none .z (.n none (.n none (.r [[0]]) .z) .z)) .z))))
def S132 : aU Tryz.prog P132 132 :=λ_ _ _=>.mk _
def P133 : Pl :=.z
def S133 : aU Tryz.prog P133 133 :=λ_ _ _=>.mk _
def P134 : Pl :=.z
def S134 : aU Tryz.prog P134 134 :=λ_ _ _=>.mk _
def P135 : Pl :=.z
def S135 : aU Tryz.prog P135 135 :=λ_ _ _=>.mk _
def P136 : Pl :=.z
def S136 (c : CV) (a0 : AV) (h : AH) : R :=
xh 31 (uU 0) a0 λv0=>
xq v0 1 λv1=>
xq v0 0 λv2=>
zH v1 (
ju c (.fn 169 [] []) [v2,(iI 10)] h λv3 h4=>
some (v3,h4)) (
xh 4 (.bool false) a0 λv5=>
xq v5 1 λv6=>
xq v5 0 λv7=>
zH v6 (
zH v7 (
some ((.str [121,101,115]),h)) (
some ((.str [110,111]),h))) (
some ((.str [110,111,110,101]),h)))
def W136 : WF :=sj S136
theorem W136_ok : fc Tryz.prog 136 W136 :=Gc (pl :=P136) λ_ _ _=>by kernel_rfl
def P138 : Pl :=(.n none .z (.n none .z (.n none (.n none .z (.n none (.n (some [11,10,9,3]) .z .z) .z)) .z)))
def S138 : aU Tryz.prog P138 138 :=λ_ _ _=>.mk _
def P139 : Pl :=(.n none .z (.n none (.n none .z (.n none (.n (some [9,8,7,1]) (.n none .z (.n none .z (.n none (.n none (.n none .z (.n none (.r [[18,15,9,8,7,1]]) .z)) .z) .z))) .z) .z)) .z))
def S139 : bE Tryz.prog P139 139 :=λ_ _ _ _=>.mk _
def P140 : Pl :=.z
def S140 : aU Tryz.prog P140 140 :=λ_ _ _=>.mk _
def P141 : Pl :=(.n none .z (.n none (.r [[7,5]]) .z))
def S141 : aU Tryz.prog P141 141 :=λ_ _ _=>.mk _
def P142 : Pl :=.z
def S142 : aU Tryz.prog P142 142 :=λ_ _ _=>.mk _
def P143 : Pl :=(.n none .z (.n none (.n none (.n none .z (.n none .z (.n none (.r [[11,5,3,1]]) (.n none .z (.n none (.r [[33,29,5,1]]) (.n none .z (.n none (.r [[42,39]]) .z))))))) .z) .z))
def S143 : cQ Tryz.prog P143 143 :=λ_ _ _ _ _=>.mk _
def P144 : Pl :=(.n none .z (.n (some [2,1,0]) .z (.n (some [0]) (.n none (.r [[19,17,1,0]]) .z) .z)))
def S144 : cQ Tryz.prog P144 144 :=λ_ _ _ _ _=>.mk _
def P145 : Pl :=.z
def S145 : aU Tryz.prog P145 145 :=λ_ _ _=>.mk _
def P146 : Pl :=(.n none .z (.n none (.n none .z (.n none (.n (some [11,10,9,2,1]) (.n none .z (.n none .z (.n none (.n (some [11,10,9,2,1]) (.n none .z (.n none .z (.n none (.r [[33,26,11,10,9,7,6,2,1],[38,33,26,11,10,9,7,6,2,1],[39,26,11,10,9,7,6,2,1],[48,41,11,10,9,7,6,2,1],[58,48,41,11,10,9,6,2,1],[59,41,11,10,9,6,2,1]]) .z))) .z) .z))) .z) .z)) .z))
def S146 : bE Tryz.prog P146 146 :=λ_ _ _ _=>.mk _
def P147 : Pl :=(.n none .z (.n none .z (.n none .z (.n none (.n none .z (.n none (.n (some [14,13,12,4,3]) .z .z) .z)) .z))))
def S147 : aU Tryz.prog P147 147 :=λ_ _ _=>.mk _
def P148 : Pl :=.z
def S148 : aU Tryz.prog P148 148 :=λ_ _ _=>.mk _
def P149 : Pl :=.z
def S149 : bE Tryz.prog P149 149 :=λ_ _ _ _=>.mk _
def P150 : Pl :=(.n none .z (.n none .z (.n none (.n none .z (.n (some []) (.n none .z (.n none .z (.n none .z (.n none .z (.n none .z (.n none .z (.n none .z (.n none .z (.n none .z (.n none .z (.n none .z (.n none .z (.n none .z (.n none .z (.n none .z (.n none .z (.n none .z (.n none .z (.n none .z (.n none .z (.n none .z (.n none .z (.n none .z (.n none .z (.n (some [120,6,5,3,0]) .z .z))))))))))))))))))))))))) .z)) .z)))
def S150 : bE Tryz.prog P150 150 :=λ_ _ _ _=>.mk _
def P151 : Pl :=(.n none .z (.n none (.n none (.r [[17,13,1,0]]) .z) .z))
def S151 : bE Tryz.prog P151 151 :=λ_ _ _ _=>.mk _
def P152 : Pl :=.z
def S152 : bE Tryz.prog P152 152 :=λ_ _ _ _=>.mk _
def P153 : Pl :=.z
def S153 : aU Tryz.prog P153 153 :=λ_ _ _=>.mk _
def P154 : Pl :=(.n none .z (.n none (.n none .z (.n none (.n (some [9,8,7,1,0]) .z .z) .z)) .z))
def S154 : bE Tryz.prog P154 154 :=λ_ _ _ _=>.mk _
def P155 : Pl :=.z
def S155 : aU Tryz.prog P155 155 :=λ_ _ _=>.mk _
def P156 : Pl :=.z
def S156 : aU Tryz.prog P156 156 :=λ_ _ _=>.mk _
def P157 : Pl :=(.n none .z (.n none .z (.n none (.n none .z (.n none (.n (some [13,12,11,5,0]) .z .z) .z)) .z)))
def S157 : bE Tryz.prog P157 157 :=λ_ _ _ _=>.mk _
def P158 : Pl :=.z
def S158 : aU Tryz.prog P158 158 :=λ_ _ _=>.mk _
def P161 : Pl :=.z
def S161 : aU Tryz.prog P161 161 :=λ_ _ _=>.mk _
def P162 : Pl :=(.n none .z (.n none (.n none (.r [[13,10,3,0],[18,15,3,0]]) .z) .z))
def S162 : bE Tryz.prog P162 162 :=λ_ _ _ _=>.mk _
def P163 : Pl :=.z
def S163 : aU Tryz.prog P163 163 :=λ_ _ _=>.mk _
def P164 : Pl :=.z
def S164 : cQ Tryz.prog P164 164 :=λ_ _ _ _ _=>.mk _
def P165 : Pl :=.z
def S165 : aU Tryz.prog P165 165 :=λ_ _ _=>.mk _
def P166 : Pl :=.z
def S166 : aU Tryz.prog P166 166 :=λ_ _ _=>.mk _
def P167 : Pl :=.z
def S167 : aU Tryz.prog P167 167 :=λ_ _ _=>.mk _
def P168 : Pl :=.z
def S168 : aU Tryz.prog P168 168 :=λ_ _ _=>.mk _
def P169 : Pl :=.z
def S169 : bE Tryz.prog P169 169 :=λ_ _ _ _=>.mk _
def P173 : Pl :=.z
def S173 : uQ Tryz.prog P173 173 :=λ_ _=>.mk _
def P174 : Pl :=(.n none .z (.n none .z (.n none (.r [[21,17,5,4,1],[27,23,5,1],[33,29,1],[39,35,1],[42,39,35],[43,35]]) .z)))
def S174 : aU Tryz.prog P174 174 :=λ_ _ _=>.mk _
def P175 : Pl :=(.n none .z (.n none .z (.n none (.r [[4]]) .z)))
def S175 : bE Tryz.prog P175 175 :=λ_ _ _ _=>.mk _
def P176 : Pl :=(.n none .z (.n none (.r [[7,5]]) .z))
def S176 : aU Tryz.prog P176 176 :=λ_ _ _=>.mk _
def P177 : Pl :=(.n none .z (.n none (.r [[7,5]]) .z))
def S177 : aU Tryz.prog P177 177 :=λ_ _ _=>.mk _
def P178 : Pl :=.z
def S178 : aU Tryz.prog P178 178 :=λ_ _ _=>.mk _
def P179 : Pl :=.z
def S179 : bE Tryz.prog P179 179 :=λ_ _ _ _=>.mk _
def P180 : Pl :=(.n none .z (.n none .z (.n none (.n none .z (.n none (.n none .z (.n none (.n none (.r [[4]]) .z) (.n none .z (.n none (.n none (.r [[4]]) .z) (.n none .z (.n none (.n none (.r [[4]]) .z) (.n none .z (.n none (.n none (.r [[4]]) .z) (.n none .z (.n none (.n none (.r [[4]]) .z) (.n none .z (.n none (.n none (.r [[4]]) .z) (.n none .z (.n none .z (.n none .z (.n none .z (.n none .z (.n none (.n none (.r [[4]]) .z) (.n none .z (.n none (.n none (.r [[4]]) .z) (.n none .z (.n none (.n none (.r [[4]]) .z) .z)))))))))))))))))))))) .z)) .z)))
def S180 : bE Tryz.prog P180 180 :=λ_ _ _ _=>.mk _
def P181 : Pl :=(.n none .z (.n none (.n none .z (.n none (.n none .z (.n none (.n none .z (.n none .z (.n none .z (.n (some [10]) .z .z)))) (.n none .z (.n none .z (.n none .z (.n none (.n none .z (.n none .z (.n (some [15]) .z .z))) .z)))))) .z)) .z))
def S181 : ij Tryz.prog P181 181 :=λ_ _ _ _ _ _=>.mk _
end
end Go.Proofs.YtefichdddddacaaGreatDoor
