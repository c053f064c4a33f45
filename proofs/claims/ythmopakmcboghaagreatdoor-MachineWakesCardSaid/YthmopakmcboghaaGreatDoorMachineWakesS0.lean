/- Printed by a program of mine: the bodies of the program's functions aa terms of the primitives of the abstract executor, each shown equal by the kernel. -/
import Derived.Test.YthmopakmcboghaaGreatDoorProg
import Derived.Test.YthmopakmcboghaaGreatDoorMachineWakesAe1
import Derived.KernelRfl
namespace Go.Proofs.YthmopakmcboghaaGreatDoor
open Go Go.Ae
set_option maxRecDepth 100000
noncomputable section
attribute [local irreducible] zP kL kV xM qn Y9 YJ vt QJ Xp Xs gA jB zc jU jo wL M6 mM GG ow vH Xc Xx Gn vp yQ gD xu kp xv JJ Q8 nt gF vJ yC kr yO vB Uz YW QH Uc X5 Kk Z7 UX Ub Kf zA yz JT Xk JF xR vK uO Xw Ng zo yH YI AV.undef
set_option maxHeartbeats 40000000
def P3 : Pl :=(.n none .z (.n none .z (.n none .z (.n none .z (.n none .z (.n none .z (.n none .z (.n (some [13,10,2,1,0]) .z (.n none .z (.n none .z (.n none (.n none .z (.n none (.n (some [15,14,1,0]) (.n none (.n none (.r [[70,68,15,14,1,0]]) .z) (.n none (.n none (.n none .z (.n (some [16,15,14,1,0]) .z (.n none .z (.n none .z (.n none (.r [[92,88,17,15,14,1,0],[96,92,88,15,14,1,0],[98,88,15,14,1,0],[101,98,88,15,14,1,0],[102,88,15,14,1,0]]) .z))))) .z) .z)) .z) .z)) (.n none (.n none .z (.n none (.n (some [18,14,1]) (.n none (.n none (.r [[109,106,18,14,1]]) .z) .z) .z) .z)) (.n none .z (.n none (.r [[8]]) .z))))))))))))))
def S3 : iw Tryz.prog P3 3 :=λ_ _ _ _ _ _=>.mk _
def P4 : Pl :=(.n none .z (.n none .z (.n none .z (.n none .z (.n none .z (.n none (.n none .z (.n none (.n (some [4,3]) .z .z) .z)) (.n none .z (.n none (.r [[37,34,6,5,3],[43,39,6,5,3],[49,45,6,3],[54,51,6,3],[59,56,6,3],[66,61,3],[71,68,3],[76,73,3],[81,78,3],[85,83,3],[90,87,3],[96,92,3],[102,98,3],[108,104,3],[114,110,3],[121,116]]) .z))))))))
def S4 : tx Tryz.prog P4 4 :=λ_ _=>.mk _
def P5 : Pl :=(.n none .z (.n none .z (.n none .z (.n none .z (.n none (.r [[5,2,1]]) (.n none (.n none .z (.n none (.n (some [32,31,30,5,2,1]) (.n none .z (.n none .z (.n none (.n (some [32,31,30,5,2,1]) .z .z) .z))) .z) .z)) (.n none (.n none .z (.n none (.n (some [51,50,5,2,1]) (.n none .z (.n none .z (.n none (.n none (.n none .z (.n none .z (.n (some [51,50,9,8,5,2,1]) .z (.r [[51,50,5,2,1]])))) .z) .z))) .z) .z)) .z)))))))
def S5 : bC Tryz.prog P5 5 :=λ_ _ _ _=>.mk _
def P6 : Pl :=(.n none .z (.n none (.n none (.r [[19,12,2,1,0]]) .z) (.n none .z (.n none .z (.n none .z (.n none .z (.n none (.r [[1,0]]) (.n none .z (.n none (.n none .z (.n none (.n (some [80,79,78,1,0]) (.n none .z (.n none .z (.n none (.n (some [80,79,78,1,0]) .z .z) .z))) .z) .z)) .z)))))))))
def S6 : cQ Tryz.prog P6 6 :=λ_ _ _ _ _=>.mk _
def P7 : Pl :=.z
def S7 : aQ Tryz.prog P7 7 :=λ_ _ _=>.mk _
def P8 : Pl :=.z
def S8 : bC Tryz.prog P8 8 :=λ_ _ _ _=>.mk _
def P9 : Pl :=(.n none .z (.n none (.n none .z (.n none (.n (some [11,10,9]) (.n none .z (.n none .z (.n none (.n none (.n none .z (.n none .z (.n none (.r [[21,19,11,10,9]]) .z))) .z) .z))) .z) .z)) .z))
def S9 : aQ Tryz.prog P9 9 :=λ_ _ _=>.mk _
def P10 : Pl :=.z
def S10 : bC Tryz.prog P10 10 :=λ_ _ _ _=>.mk _
def P11 : Pl :=(.n none .z (.n none .z (.n none (.n none .z (.n none (.n (some [5,1,0]) .z .z) .z)) .z)))
def S11 : bC Tryz.prog P11 11 :=λ_ _ _ _=>.mk _
def P12 : Pl :=(.n none .z (.n none .z (.n none (.r [[2]]) .z)))
def S12 : aQ Tryz.prog P12 12 :=λ_ _ _=>.mk _
def P13 : Pl :=.z
def S13 : aQ Tryz.prog P13 13 :=λ_ _ _=>.mk _
def P14 : Pl :=.z
def S14 : aQ Tryz.prog P14 14 :=λ_ _ _=>.mk _
def P15 : Pl :=.z
def S15 : aQ Tryz.prog P15 15 :=λ_ _ _=>.mk _
def P16 : Pl :=(.n none .z (.n none (.n none .z (.n none (.n (some [10,9,8]) .z .z) .z)) .z))
def S16 : aQ Tryz.prog P16 16 :=λ_ _ _=>.mk _
def P17 : Pl :=(.n none .z (.n none .z (.n none (.n none .z (.n none (.n (some [11,10,9,3]) .z .z) .z)) .z)))
def S17 : aQ Tryz.prog P17 17 :=λ_ _ _=>.mk _
def P18 : Pl :=.z
def S18 : aQ Tryz.prog P18 18 :=λ_ _ _=>.mk _
def P19 : Pl :=.z
def S19 : aQ Tryz.prog P19 19 :=λ_ _ _=>.mk _
def P20 : Pl :=.z
def S20 : bC Tryz.prog P20 20 :=λ_ _ _ _=>.mk _
def P21 : Pl :=.z
def S21 : aQ Tryz.prog P21 21 :=λ_ _ _=>.mk _
def P22 : Pl :=(.n none .z (.n none (.r [[2]]) .z))
def S22 : aQ Tryz.prog P22 22 :=λ_ _ _=>.mk _
def P23 : Pl :=(.n none .z (.n none .z (.n none (.r [[2]]) .z)))
def S23 : aQ Tryz.prog P23 23 :=λ_ _ _=>.mk _
def P24 : Pl :=.z
def S24 : aQ Tryz.prog P24 24 :=λ_ _ _=>.mk _
def P25 : Pl :=(.n none .z (.n none .z (.n (some [5,4]) .z .z)))
def S25 : bC Tryz.prog P25 25 :=λ_ _ _ _=>.mk _
def P26 : Pl :=(.n none .z (.n none .z (.n none (.r [[7,2]]) (.n none (.n none .z (.n none (.n (some [29,28,27,7]) (.n none .z (.n none .z (.n none (.n none (.n none .z (.r [[29,28,27,7]])) .z) .z))) .z) .z)) .z))))
def S26 : cQ Tryz.prog P26 26 :=λ_ _ _ _ _=>.mk _
def P27 : Pl :=.z
def S27 : aQ Tryz.prog P27 27 :=λ_ _ _=>.mk _
def P28 : Pl :=.z
def S28 : aQ Tryz.prog P28 28 :=λ_ _ _=>.mk _
def P29 : Pl :=(.n none .z (.n none .z (.n (some []) (.n none .z (.n none (.n none .z (.n none .z (.n (some [3,2,0]) (.n none .z (.n none (.r [[43,41,3,2,0]]) .z)) .z))) (.n none .z (.n none .z (.n none .z (.n none (.n (some [5,0]) .z .z) .z)))))) .z)))
def S29 : iw Tryz.prog P29 29 :=λ_ _ _ _ _ _=>.mk _
def P30 : Pl :=(.n none .z (.n none .z (.n none (.n (some [19,18,17,2,1,0]) (.n none .z (.n none .z (.n none (.n none (.n none .z (.n none (.n none (.r [[31,27,19,18,17,2,1,0]]) .z) (.n (some []) (.n none .z (.n none .z (.n none (.r [[50,45,0]]) .z))) .z))) .z) .z))) .z) .z)))
def S30 : cQ Tryz.prog P30 30 :=λ_ _ _ _ _=>.mk _
def P31 : Pl :=.z
def S31 : aQ Tryz.prog P31 31 :=λ_ _ _=>.mk _
def P32 : Pl :=(.n none .z (.n none (.n none (.r [[14,7,1,0]]) .z) .z))
def S32 : bC Tryz.prog P32 32 :=λ_ _ _ _=>.mk _
def P33 : Pl :=.z
def S33 : aQ Tryz.prog P33 33 :=λ_ _ _=>.mk _
def P34 : Pl :=.z
def S34 : aQ Tryz.prog P34 34 :=λ_ _ _=>.mk _
def P35 : Pl :=.z
def S35 : aQ Tryz.prog P35 35 :=λ_ _ _=>.mk _
def P36 : Pl :=(.n none .z (.n none (.r [[13,8]]) .z))
def S36 : aQ Tryz.prog P36 36 :=λ_ _ _=>.mk _
def P37 : Pl :=(.n none .z (.n none .z (.n none (.n none .z (.n none (.n (some [13,12,11,3,0]) .z .z) .z)) (.n (some [3]) .z .z))))
def S37 : aQ Tryz.prog P37 37 :=λ_ _ _=>.mk _
def P38 : Pl :=.z
def S38 : aQ Tryz.prog P38 38 :=λ_ _ _=>.mk _
def P39 : Pl :=.z
def S39 : aQ Tryz.prog P39 39 :=λ_ _ _=>.mk _
def P40 : Pl :=(.n none .z (.n none (.r [[2]]) .z))
def S40 : aQ Tryz.prog P40 40 :=λ_ _ _=>.mk _
def P41 : Pl :=.z
def S41 : aQ Tryz.prog P41 41 :=λ_ _ _=>.mk _
def P42 : Pl :=.z
def S42 : aQ Tryz.prog P42 42 :=λ_ _ _=>.mk _
def P43 : Pl :=.z
def S43 : bC Tryz.prog P43 43 :=λ_ _ _ _=>.mk _
def P44 : Pl :=.z
def S44 : aQ Tryz.prog P44 44 :=λ_ _ _=>.mk _
def P45 : Pl :=.z
def S45 : aQ Tryz.prog P45 45 :=λ_ _ _=>.mk _
def P46 : Pl :=(.n none .z (.n none .z (.n none (.n none .z (.n (some [5,4]) .z .z)) .z)))
def S46 : bC Tryz.prog P46 46 :=λ_ _ _ _=>.mk _
def P47 : Pl :=.z
def S47 : tx Tryz.prog P47 47 :=λ_ _=>.mk _
def P48 : Pl :=.z
def S48 : aQ Tryz.prog P48 48 :=λ_ _ _=>.mk _
def P49 : Pl :=.z
def S49 : aQ Tryz.prog P49 49 :=λ_ _ _=>.mk _
def P50 : Pl :=.z
def S50 (c : CV) (a0 : AV) (h : AH) : R :=
gF h 67 (.agg [(iI 0),(iI 0),(uU 0),(uU 0),(uU 0),(.bool false),(iI 0),(uU 0),(.bool false),(iI 0)]) λv0 h1=>
xM a0 λv2=>
qn v2 14 λv3=>
jB h1 v3 λv4=>
jo .eql v4 (iI 0) λv5=>
zP v5 (
xM a0 λv6=>
qn v6 0 λv7=>
jB h1 v7 λv8=>
vJ [(iI 0),(iI 0),(uU 0),(uU 0),(uU 0),(.bool false),(iI 0),(uU 0),(.bool false),(iI 0)] [(0,1,(iI 9)),(1,1,v8),(3,1,(uU 1))] λv9=>
jU h1 v0 v9 10 λeu=>
zc eu v0 10 λv11=>
some ((.bJ [v11,(.bool true)]),eu)) (
jo .eql v4 (iI 1) λv12=>
zP v12 (
vJ [(iI 0),(iI 0),(uU 0),(uU 0),(uU 0),(.bool false),(iI 0),(uU 0),(.bool false),(iI 0)] [(0,1,(iI 6))] λpz=>
jU h1 v0 pz 10 λue=>
zc ue v0 10 λrS=>
some ((.bJ [rS,(.bool true)]),ue)) (
jo .eql v4 (iI 2) λpA=>
zP pA (
xM a0 λnR=>
qn nR 0 λnf=>
jB h1 nf λrT=>
xM a0 λv20=>
qn v20 21 λv21=>
jB h1 v21 λv22=>
jo .add v22 (uU 1) λrq=>
vJ [(iI 0),(iI 0),(uU 0),(uU 0),(uU 0),(.bool false),(iI 0),(uU 0),(.bool false),(iI 0)] [(0,1,(iI 9)),(1,1,rT),(3,1,rq)] λv24=>
jU h1 v0 v24 10 λLj=>
zc Lj v0 10 λrU=>
some ((.bJ [rU,(.bool true)]),Lj)) (
jo .eql v4 (iI 7) λuf=>
zP uf (
xM a0 λv28=>
qn v28 0 λFq=>
jB h1 Fq λv30=>
vJ [(iI 0),(iI 0),(uU 0),(uU 0),(uU 0),(.bool false),(iI 0),(uU 0),(.bool false),(iI 0)] [(0,1,(iI 9)),(1,1,v30)] λv31=>
jU h1 v0 v31 10 λug=>
zc ug v0 10 λrV=>
some ((.bJ [rV,(.bool true)]),ug)) (
jo .eql v4 (iI 8) λFs=>
zP Fs (
vJ [(iI 0),(iI 0),(uU 0),(uU 0),(uU 0),(.bool false),(iI 0),(uU 0),(.bool false),(iI 0)] [] λAa=>
jU h1 v0 Aa 10 λLk=>
zc Lk v0 10 λv37=>
some ((.bJ [v37,(.bool false)]),Lk)) (
xM a0 λBS=>
qn BS 15 λFt=>
jB h1 Ft λv40=>
yz c [(74,27),(98,50),(144,363),(145,371),(146,374),(358,306)] v40 [] h1 λAb Ll=>
xv Ab 0 λuh=>
xv Ab 1 λBU=>
jU Ll v0 uh 10 λLm=>
zc Lm v0 10 λv46=>
some ((.bJ [v46,BU]),Lm))))))
def W50 : WF :=sx S50
theorem W50_ok : fk Tryz.prog 50 W50 :=Gx (pl :=P50) λ_ _ _=>by kernel_rfl
def P51 : Pl :=(.n none .z (.n none (.n (some [0]) (.n none .z (.n none .z (.n none .z (.n none (.n none .z (.n none (.n none .z (.n none (.n (some [62,61,60,2,0]) .z .z) .z)) .z)) .z)))) .z) .z))
def S51 : aQ Tryz.prog P51 51 :=λ_ _ _=>.mk _
def P52 : Pl :=.z
def S52 : aQ Tryz.prog P52 52 :=λ_ _ _=>.mk _
def P53 : Pl :=(.n none .z (.n none .z (.n none .z (.n none .z (.n (some []) (.n none .z (.n none .z (.n none .z (.n none (.n none (.r [[0]]) .z) .z)))) .z)))))
def S53 (c : CV) (a0 a1 : AV) (h : AH) : R :=
gF h 72 a1 λv0 h1=>
xM a0 λv2=>
qn v2 14 λv3=>
jB h1 v3 λv4=>
jo .eql v4 (iI 8) λv5=>
zP v5 (
some ((.bJ []),h1)) (
qn v0 5 λv6=>
jB h1 v6 λv7=>
jo .neq v7 (iI 0) λv8=>
zP v8 (
qn v0 5 λv9=>
jB h1 v9 λv10=>
zA c (.fn 80 [] []) [a0,(iI 4),v10,(.int .i64 (.negSucc 0))] h1 λ_ nS=>
xM a0 λpz=>
qn pz 14 λrW=>
jU nS rW (iI 8) 1 λmg=>
some ((.bJ []),mg)) (
xM a0 λpA=>
qn pA 14 λnR=>
jB h1 nR λnf=>
yH (α :=Unit→AH→List Nat→R) (λ_ pB d21=>
zo d21 pB λAc=>
some ((.bJ []),Ac)) λj22=>
jo .eql nf (iI 0) λv24=>
zP v24 (
xM a0 λoo=>
qn oo 14 λrU=>
jU h1 rU (iI 1) 1 λui=>
j22 (()) ui []) (
jo .eql nf (iI 1) λv28=>
zP v28 (
yH (α :=AV×Unit→AH→R) (λs29 h30=>
xM s29.1 λBV=>
qn BV 14 λrV=>
jU h30 rV (iI 2) 1 λh34=>
j22 (()) h34 []) λj31=>
qn v0 0 λAa=>
jB h1 Aa λAd=>
qn v0 0 λv37=>
jB h1 v37 λBS=>
xM a0 λFt=>
qn Ft 19 λv40=>
jU h1 v40 (.bool true) 1 λDA=>
xM a0 λAf=>
qn Af 20 λuh=>
jU DA uh Ad 1 λFu=>
xM a0 λBW=>
qn BW 21 λv46=>
jU Fu v46 BS 1 λh47=>
Xk v37 none BS DA Fu h1.nx<|
Xk v37 none BS h1 DA h1.nx<|
Xk Aa none Ad h1 DA h1.nx<|
j31 (a0,()) h47) (
jo .eql nf (iI 2) λDB=>
zP DB (
zA c (.fn 81 [] []) [a0] h1 λ_ Ln=>
j22 (()) Ln []) (
jo .eql nf (iI 7) λv51=>
zP v51 (
xM a0 λFv=>
qn Fv 14 λv53=>
jU h1 v53 (iI 8) 1 λDC=>
j22 (()) DC []) (
xM a0 λv55=>
qn v55 15 λv56=>
jB h1 v56 λFw=>
zc h1 v0 6 λDD=>
yz c [(74,29),(98,53),(144,364),(145,372),(146,375)] Fw [DD] h1 λ_ h60=>
zA c (.fn 82 [] []) [a0] h60 λ_ h62=>
j22 (()) h62 []))))))
def W53 : WF :=AE S53
theorem W53_ok : fk Tryz.prog 53 W53 :=Ed (pl :=P53) λ_ _ _ _=>by kernel_rfl
def P54 : Pl :=.z
def S54 : aQ Tryz.prog P54 54 :=λ_ _ _=>.mk _
def P55 : Pl :=(.n none .z (.n none (.r [[6,1,0]]) (.n none .z (.n (some []) (.n none .z (.n none (.n none .z (.n none (.n none (.r [[87,6,1,0]]) .z) .z)) (.n none .z (.n none .z (.n none .z (.n none .z (.n none (.r [[6,0]]) (.n none (.r [[0]]) .z)))))))) .z))))
def S55 : cQ Tryz.prog P55 55 :=λ_ _ _ _ _=>.mk _
def P56 : Pl :=(.n none .z (.n none (.n none (.r [[12,9,4,2,0],[20,14,4,2,0],[27,20,14,4,2,0],[28,14,4,2,0]]) (.n none (.n none (.r [[]]) .z) .z)) .z))
def S56 : cQ Tryz.prog P56 56 :=λ_ _ _ _ _=>.mk _
def P57 : Pl :=.z
def S57 : bC Tryz.prog P57 57 :=λ_ _ _ _=>.mk _
def P58 : Pl :=.z
def S58 : aQ Tryz.prog P58 58 :=λ_ _ _=>.mk _
def P59 : Pl :=(.n none .z (.n none (.r [[12,8]]) .z))
def S59 : aQ Tryz.prog P59 59 :=λ_ _ _=>.mk _
def P60 : Pl :=.z
def S60 : aQ Tryz.prog P60 60 :=λ_ _ _=>.mk _
def P61 : Pl :=.z
def S61 : aQ Tryz.prog P61 61 :=λ_ _ _=>.mk _
def P62 : Pl :=.z
def S62 : aQ Tryz.prog P62 62 :=λ_ _ _=>.mk _
def P63 : Pl :=(.n none .z (.n none (.r [[13,8,0],[21,15,0],[27,21,15],[28,15]]) .z))
def S63 : aQ Tryz.prog P63 63 :=λ_ _ _=>.mk _
def P64 : Pl :=(.n none .z (.n none (.r [[2,1]]) .z))
def S64 : aQ Tryz.prog P64 64 :=λ_ _ _=>.mk _
def P65 : Pl :=(.n none .z (.n none .z (.n none .z (.n none .z (.n (some [8,6,5,4,1,0]) .z (.n none (.r [[4]]) .z))))))
def S65 : bC Tryz.prog P65 65 :=λ_ _ _ _=>.mk _
def P66 : Pl :=.z
def S66 : aQ Tryz.prog P66 66 :=λ_ _ _=>.mk _
def P67 : Pl :=.z
def S67 : aQ Tryz.prog P67 67 :=λ_ _ _=>.mk _
def P68 : Pl :=.z
def S68 : aQ Tryz.prog P68 68 :=λ_ _ _=>.mk _
def P69 : Pl :=.z
def S69 : bC Tryz.prog P69 69 :=λ_ _ _ _=>.mk _
def P70 : Pl :=.z
def S70 : bC Tryz.prog P70 70 :=λ_ _ _ _=>.mk _
def P71 : Pl :=.z
def S71 : cQ Tryz.prog P71 71 :=λ_ _ _ _ _=>.mk _
def P72 : Pl :=.z
def S72 : bC Tryz.prog P72 72 :=λ_ _ _ _=>.mk _
def P73 : Pl :=.z
def S73 (c : CV) (a0 a1 a2 a3 : AV) (h : AH) : R :=
gF h 65 a2 λv0 h1=>
gF h1 65 a3 λv2 h3=>
zc h3 v2 3 λv4=>
zA c (.fn 105 [] []) [a0,a1,v4] h3 λv5 h6=>
jo .neq v5 (iI 0) λv7=>
zP v7 (
some ((.bJ [(.bool false),v5]),h6)) (
xM a0 λv8=>
qn v8 0 λv9=>
jB h6 v9 λv10=>
vt v10 a1 3 λv11=>
zc h6 v11 3 λv12=>
zc h6 v0 3 λpz=>
GG [.lA .int 0,.lA .bool 1,.lA .int 2] true v12 pz λrW=>
zP rW (
some ((.bJ [(.bool false),(iI 0)]),h6)) (
xM a0 λrS=>
qn rS 0 λpA=>
jB h6 pA λnR=>
zc h6 v2 3 λnf=>
vt nR a1 3 λrT=>
jU h6 rT nf 3 λpB=>
some ((.bJ [(.bool true),(iI 0)]),pB)))
def W73 : WF :=Ee S73
theorem W73_ok : fk Tryz.prog 73 W73 :=qk8 (pl :=P73) λ_ _ _ _ _ _=>by kernel_rfl
def P74 : Pl :=(.n none .z (.n none .z (.n (some [7]) .z .z)))
def S74 : cQ Tryz.prog P74 74 :=λ_ _ _ _ _=>.mk _
def P75 : Pl :=.z
def S75 : cQ Tryz.prog P75 75 :=λ_ _ _ _ _=>.mk _
def P76 : Pl :=.z
def S76 : bC Tryz.prog P76 76 :=λ_ _ _ _=>.mk _
def P77 : Pl :=.z
def S77 : cQ Tryz.prog P77 77 :=λ_ _ _ _ _=>.mk _
def P78 : Pl :=.z
def S78 : cQ Tryz.prog P78 78 :=λ_ _ _ _ _=>.mk _
def P79 : Pl :=.z
def S79 : cQ Tryz.prog P79 79 :=λ_ _ _ _ _=>.mk _
def P80 : Pl :=.z
def S80 : iw Tryz.prog P80 80 :=λ_ _ _ _ _ _=>.mk _
def P81 : Pl :=(.n none .z (.n none .z (.n (some []) (.n none .z (.n none .z (.n none .z (.n none .z (.n none .z (.n none .z (.n none .z (.n none .z (.n none (.r [[0]]) .z))))))))) .z)))
def S81 : aQ Tryz.prog P81 81 :=λ_ _ _=>.mk _
def P82 : Pl :=(.n none (.n none .z (.n (some [0]) .z .z)) .z)
def S82 (c : CV) (a0 : AV) (h : AH) : R :=
xM a0 λv0=>
qn v0 15 λv1=>
jB h v1 λv2=>
yz c [(98,54),(144,171),(145,176),(146,96),(211,125)] v2 [] h λv3 h4=>
yH (α :=AV×Unit→AH→List Nat→R) (λs5 h6 d7=>
zA c (.fn 63 [] []) [s5.1] h6 λv9 eu=>
zP v9 (
xM s5.1 λv11=>
qn v11 18 λv12=>
jB eu v12 λpz=>
zA c (.fn 117 [] []) [pz] eu λrW mg=>
xM s5.1 λpA=>
qn pA 21 λnR=>
jU mg nR rW 1 λAg=>
zo d7 Ag λBX=>
some ((.bJ []),BX)) (
zo d7 eu λpB=>
some ((.bJ []),pB))) λj8=>
jo .eql v3 (iI 0) λv21=>
zP v21 (
j8 (a0,()) h4 []) (
jo .eql v3 (iI 5) λv22=>
zP v22 (
xM a0 λrq=>
qn rq 15 λv24=>
jB h4 v24 λoo=>
yz c [(98,83),(144,362),(145,370),(146,373),(211,365)] oo [] h4 λrU ui=>
zA c (.fn 80 [] []) [a0,(iI 5),(iI 0),rU] ui λ_ ru=>
j8 (a0,()) ru []) (
zA c (.fn 116 [] []) [a0] h4 λ_ h31=>
j8 (a0,()) h31 []))
def W82 : WF :=sx S82
theorem W82_ok : fk Tryz.prog 82 W82 :=Gx (pl :=P82) λ_ _ _=>by kernel_rfl
def P83 : Pl :=.z
def S83 : aQ Tryz.prog P83 83 :=λ_ _ _=>.mk _
def P84 : Pl :=(.n none .z (.n none (.n none .z (.n none (.n (some [11,10,4,1,0]) .z .z) .z)) .z))
def S84 : bC Tryz.prog P84 84 :=λ_ _ _ _=>.mk _
def P85 : Pl :=(.n (some [0]) (.n none .z (.n none (.n none .z (.n none (.n (some [14,13,12,0]) .z .z) .z)) .z)) .z)
def S85 : bC Tryz.prog P85 85 :=λ_ _ _ _=>.mk _
def P86 : Pl :=.z
def S86 : aQ Tryz.prog P86 86 :=λ_ _ _=>.mk _
def P87 : Pl :=(.n none .z (.n none (.n none (.r [[11,6,0]]) .z) .z))
def S87 : aQ Tryz.prog P87 87 :=λ_ _ _=>.mk _
def P88 : Pl :=.z
def S88 : aQ Tryz.prog P88 88 :=λ_ _ _=>.mk _
def P89 : Pl :=(.n none .z (.n none (.n (some [10,9,8,1,0]) .z .z) .z))
def S89 : cQ Tryz.prog P89 89 :=λ_ _ _ _ _=>.mk _
def P90 : Pl :=.z
def S90 : aQ Tryz.prog P90 90 :=λ_ _ _=>.mk _
def P91 : Pl :=.z
def S91 : aQ Tryz.prog P91 91 :=λ_ _ _=>.mk _
def P92 : Pl :=(.n (some [0]) .z .z)
def S92 : aQ Tryz.prog P92 92 :=λ_ _ _=>.mk _
def P93 : Pl :=.z
def S93 : aQ Tryz.prog P93 93 :=λ_ _ _=>.mk _
def P94 : Pl :=.z
def S94 : aQ Tryz.prog P94 94 :=λ_ _ _=>.mk _
def P95 : Pl :=(.n none .z (.n none (.r [[10,7]]) .z))
def S95 : aQ Tryz.prog P95 95 :=λ_ _ _=>.mk _
def P96 : Pl :=.z
def S96 : aQ Tryz.prog P96 96 :=λ_ _ _=>.mk _
def P97 : Pl :=.z
def S97 : aQ Tryz.prog P97 97 :=λ_ _ _=>.mk _
def P98 : Pl :=.z
def S98 : aQ Tryz.prog P98 98 :=λ_ _ _=>.mk _
def P99 : Pl :=.z
def S99 : aQ Tryz.prog P99 99 :=λ_ _ _=>.mk _
def P100 : Pl :=.z
def S100 : aQ Tryz.prog P100 100 :=λ_ _ _=>.mk _
def P101 : Pl :=.z
def S101 : aQ Tryz.prog P101 101 :=λ_ _ _=>.mk _
def P102 : Pl :=.z
def S102 : aQ Tryz.prog P102 102 :=λ_ _ _=>.mk _
def P103 : Pl :=(.n none .z (.n none (.r [[14,7]]) .z))
def S103 : bC Tryz.prog P103 103 :=λ_ _ _ _=>.mk _
def P104 : Pl :=(.n none .z (.n none (.r [[14,7]]) .z))
def S104 : bC Tryz.prog P104 104 :=λ_ _ _ _=>.mk _
def P105 : Pl :=.z
def S105 : cQ Tryz.prog P105 105 :=λ_ _ _ _ _=>.mk _
def P106 : Pl :=(.n none .z (.n none (.r [[14,7]]) .z))
def S106 : bC Tryz.prog P106 106 :=λ_ _ _ _=>.mk _
def P107 : Pl :=(.n none .z (.n none .z (.n none (.r [[4]]) .z)))
def S107 : bC Tryz.prog P107 107 :=λ_ _ _ _=>.mk _
def P108 : Pl :=(.n none .z (.n none .z (.n none .z (.n none (.r [[6]]) .z))))
def S108 : cQ Tryz.prog P108 108 :=λ_ _ _ _ _=>.mk _
def P109 : Pl :=(.n none .z (.n none (.n none .z (.n none (.n none (.r [[3,2]]) .z) .z)) (.n none (.n none (.n (some [0]) .z .z) .z) .z)))
def S109 : aQ Tryz.prog P109 109 :=λ_ _ _=>.mk _
def P110 : Pl :=(.n none (.r [[0]]) .z)
def S110 : bC Tryz.prog P110 110 :=λ_ _ _ _=>.mk _
def P111 : Pl :=.z
def S111 : aQ Tryz.prog P111 111 :=λ_ _ _=>.mk _
def P112 : Pl :=(.n none (.r [[1,0]]) .z)
def S112 : bC Tryz.prog P112 112 :=λ_ _ _ _=>.mk _
def P113 : Pl :=.z
def S113 : aQ Tryz.prog P113 113 :=λ_ _ _=>.mk _
def P114 : Pl :=.z
def S114 : Dc Tryz.prog P114 114 :=λ_ _ _ _ _ _ _ _ _=>.mk _
def P115 : Pl :=.z
def S115 : cQ Tryz.prog P115 115 :=λ_ _ _ _ _=>.mk _
def P116 : Pl :=(.n none .z (.n (some []) (.n none .z (.n none .z (.n none .z (.n none .z (.n none .z (.n none .z (.n none .z (.n none (.r [[]]) .z)))))))) .z))
def S116 : aQ Tryz.prog P116 116 :=λ_ _ _=>.mk _
def P117 : Pl :=.z
def S117 : aQ Tryz.prog P117 117 :=λ_ _ _=>.mk _
def P118 : Pl :=(.n none .z (.n none (.r [[8,6]]) .z))
def S118 : aQ Tryz.prog P118 118 :=λ_ _ _=>.mk _
def P119 : Pl :=.z
def S119 : aQ Tryz.prog P119 119 :=λ_ _ _=>.mk _
def P120 : Pl :=(.n none .z (.n none .z (.n none (.n none .z (.n none (.n (some [17,16,15,3]) .z .z) .z)) .z)))
def S120 (c : CV) (a0 : AV) (h : AH) : R :=
xM a0 λv0=>
qn v0 0 λv1=>
jB h v1 λv2=>
JJ v2 λv3=>
kr h 9 [(.str [])] v3 v3 λv4 h5=>
xM a0 λv6=>
qn v6 0 λv7=>
jB h5 v7 λv8=>
JJ v8 λv9=>
YI (σ :=AV×AV×AV×AV×Unit) NN (λi13 fc dq d12=>
jo .lss fc.1 fc.2.1 λrW=>
zP rW (
vt fc.2.2.1 fc.1 1 λrS=>
jB dq rS λpA=>
zA c (.fn 147 [] []) [pA] dq λnR Ag=>
vt fc.2.2.2.1 fc.1 1 λrT=>
jU Ag rT nR 1 λpB=>
jo .add fc.1 (iI 1) λv21=>
i13 (v21,fc.2.1,fc.2.2.1,fc.2.2.2.1,()) pB d12) (
zA c (.fn 148 [] []) [fc.2.2.2.1,(.str [32])] dq λv22 Ac=>
zo d12 Ac λFx=>
some (v22,Fx))) ((iI 0),v9,v8,v4,()) h5 []
def W120 : WF :=sx S120
theorem W120_ok : fk Tryz.prog 120 W120 :=Gx (pl :=P120) λ_ _ _=>by kernel_rfl
def P121 : Pl :=.z
def S121 : aQ Tryz.prog P121 121 :=λ_ _ _=>.mk _
def P122 : Pl :=.z
def S122 : aQ Tryz.prog P122 122 :=λ_ _ _=>.mk _
def P123 : Pl :=(.n none .z (.n none .z (.n none (.n none .z (.n none (.n (some [14,13,12,6,5,1,0]) (.n none .z (.n none .z (.n none (.n (some [14,13,12,6,5,1,0]) .z .z) .z))) .z) .z)) .z)))
def S123 : bC Tryz.prog P123 123 :=λ_ _ _ _=>.mk _
def P124 : Pl :=.z
def S124 : aQ Tryz.prog P124 124 :=λ_ _ _=>.mk _
def P125 : Pl :=.z
def S125 : aQ Tryz.prog P125 125 :=λ_ _ _=>.mk _
def P126 : Pl :=(.n none .z (.n none .z (.n none (.n none .z (.n none (.n (some [17,16,15,3,0]) .z .z) .z)) .z)))
def S126 : aQ Tryz.prog P126 126 :=λ_ _ _=>.mk _
def P127 : Pl :=(.n none .z (.n none (.n none .z (.n none (.n none (.r [[11,8]]) .z) .z)) (.n none (.r [[19,16]]) .z)))
def S127 : aQ Tryz.prog P127 127 :=λ_ _ _=>.mk _
def P128 : Pl :=.z
def S128 : bC Tryz.prog P128 128 :=λ_ _ _ _=>.mk _
def P129 : Pl :=.z
def S129 : aQ Tryz.prog P129 129 :=λ_ _ _=>.mk _
def P130 : Pl :=(.n none .z (.n none (.n none (.r [[16,12,1]]) .z) (.n none .z (.n none (.n none .z (.n none (.n (some [21,20,19,4,1]) .z .z) .z)) (.n none .z (.n none (.r [[3,2]]) .z))))))
def S130 : aQ Tryz.prog P130 130 :=λ_ _ _=>.mk _
def P131 : Pl :=(.n none .z (.n none .z (.n none .z (.n none .z (.n none (.n none .z (.n none (.n (some [27,26,6,5,1]) .z .z) .z)) (.n none (.n none .z (.n none (.n (some [37,36,35,6,5,1]) (.n none .z (.n none .z (.n none (.n (some [37,36,35,6,5,1]) .z .z) .z))) .z) .z)) (.n none (.n none .z (.n none (.n (some [57,56,55,6,5]) (.n none .z (.n none .z (.n none (.n (some [57,56,55,6,5]) .z .z) .z))) .z) .z)) .z)))))))
def S131 : aQ Tryz.prog P131 131 :=λ_ _ _=>.mk _
def P132 : Pl :=.z
def S132 : tx Tryz.prog P132 132 :=λ_ _=>.mk _
def P133 : Pl :=(.n none .z (.n none (.n none (.n (some [0]) (.n none .z (.n (some [0]) (.n none .z (.n none .z (.n none .z (.n none .z (.n (some [0]) .z .z))))) .z)) .z) .z) .z))
def S133 : aQ Tryz.prog P133 133 :=λ_ _ _=>.mk _
def P134 : Pl :=.z
def S134 : aQ Tryz.prog P134 134 :=λ_ _ _=>.mk _
def P135 : Pl :=(.n none .z (.n none .z (.n (some [7,5,1,0]) (.n none (.r [[19,18,7,5,1,0]]) .z) .z)))
def S135 : bC Tryz.prog P135 135 :=λ_ _ _ _=>.mk _
def P136 : Pl :=.z
def S136 : oy Tryz.prog P136 136 :=λ_ _ _ _ _ _ _=>.mk _
def P137 : Pl :=.z
def S137 : cQ Tryz.prog P137 137 :=λ_ _ _ _ _=>.mk _
def P138 : Pl :=.z
def S138 : cQ Tryz.prog P138 138 :=λ_ _ _ _ _=>.mk _
def P139 : Pl :=(.n none .z (.n none .z (.n none (.n none .z (.n none (.n (some [3]) .z .z) .z)) .z)))
def S139 (c : CV) (a0 : AV) (h : AH) : R :=
gF h 113 .ak λv0 h1=>
xM a0 λv2=>
qn v2 1 λv3=>
jB h1 v3 λv4=>
zA c (.fn 165 [] []) [v4] h1 λv5 h6=>
JT c v5 [.yield (h6.new .ij).nx] ((h6.new .ij).new (.loop .ready none 139 [1,1,0,1,0] [3] [v0] h6.nx)) λ_ h7=>
vK h7 (h6.new .ij).nx λp9 h8=>
Xw p9 (
jB h8 v0 λv10=>
zo (h6.nx::[]) h8 λdq=>
some (v10,dq))<|
none
def W139 : WF :=sx S139
theorem W139_ok : fk Tryz.prog 139 W139 :=Gx (pl :=P139) λ_ _ _=>by kernel_rfl
def P140 : Pl :=.z
def S140 : bC Tryz.prog P140 140 :=λ_ _ _ _=>.mk _
def P141 : Pl :=(.n none .z (.n none .z (.n none (.n none .z (.n none (.n (some [13,12,11,7,2,1]) (.n none .z (.n none .z (.n none (.n (some [13,12,11,7,2,1]) .z .z) .z))) .z) .z)) .z)))
def S141 : cQ Tryz.prog P141 141 :=λ_ _ _ _ _=>.mk _
def P142 : Pl :=.z
def S142 : aQ Tryz.prog P142 142 :=λ_ _ _=>.mk _
def P143 : Pl :=(.n none .z (.n none (.r [[2,0]]) (.n none .z (.n (some []) (.n none .z (.n none (.n none (.r [[0]]) .z) .z)) .z))))
def S143 : aQ Tryz.prog P143 143 :=λ_ _ _=>.mk _
def P144 : Pl :=.z
def S144 : aQ Tryz.prog P144 144 :=λ_ _ _=>.mk _
def P145 : Pl :=.z
def S145 : aQ Tryz.prog P145 145 :=λ_ _ _=>.mk _
def P146 : Pl :=.z
def S146 : aQ Tryz.prog P146 146 :=λ_ _ _=>.mk _
def P147 : Pl :=.z
def S147 (c : CV) (a0 : AV) (h : AH) : R :=
xu 24 (uU 0) a0 λv0=>
xv v0 1 λv1=>
xv v0 0 λv2=>
zP v1 (
zA c (.fn 179 [] []) [v2,(iI 10)] h λv3 h4=>
some (v3,h4)) (
xu 4 (.bool false) a0 λv5=>
xv v5 1 λv6=>
xv v5 0 λv7=>
zP v6 (
zP v7 (
some ((.str [121,101,115]),h)) (
some ((.str [110,111]),h))) (
some ((.str [110,111,110,101]),h)))
def W147 : WF :=sx S147
theorem W147_ok : fk Tryz.prog 147 W147 :=Gx (pl :=P147) λ_ _ _=>by kernel_rfl
def P149 : Pl :=(.n none .z (.n none .z (.n none (.n none .z (.n none (.n (some [11,10,9,3]) .z .z) .z)) .z)))
def S149 : aQ Tryz.prog P149 149 :=λ_ _ _=>.mk _
def P150 : Pl :=(.n none .z (.n none (.n none .z (.n none (.n (some [9,8,7,1]) (.n none .z (.n none .z (.n none (.n none (.n none .z (.n none (.r [[18,15,9,8,7,1]]) .z)) .z) .z))) .z) .z)) .z))
def S150 : bC Tryz.prog P150 150 :=λ_ _ _ _=>.mk _
def P151 : Pl :=(.n none .z (.n none (.r [[7,5]]) .z))
def S151 : aQ Tryz.prog P151 151 :=λ_ _ _=>.mk _
def P152 : Pl :=.z
def S152 : aQ Tryz.prog P152 152 :=λ_ _ _=>.mk _
def P153 : Pl :=(.n none .z (.n none (.n none (.n none .z (.n none .z (.n none (.r [[11,5,3,1]]) (.n none .z (.n none (.r [[33,29,5,1]]) (.n none .z (.n none (.r [[42,39]]) .z))))))) .z) .z))
def S153 : cQ Tryz.prog P153 153 :=λ_ _ _ _ _=>.mk _
def P154 : Pl :=(.n none .z (.n (some [2,1,0]) .z (.n (some [0]) (.n none (.r [[19,17,1,0]]) .z) .z)))
def S154 : cQ Tryz.prog P154 154 :=λ_ _ _ _ _=>.mk _
def P155 : Pl :=.z
def S155 : aQ Tryz.prog P155 155 :=λ_ _ _=>.mk _
def P156 : Pl :=(.n none .z (.n none (.n none .z (.n none (.n (some [11,10,9,2,1]) (.n none .z (.n none .z (.n none (.n (some [11,10,9,2,1]) (.n none .z (.n none .z (.n none (.r [[33,26,11,10,9,7,6,2,1],[38,33,26,11,10,9,7,6,2,1],[39,26,11,10,9,7,6,2,1],[48,41,11,10,9,7,6,2,1],[58,48,41,11,10,9,6,2,1],[59,41,11,10,9,6,2,1]]) .z))) .z) .z))) .z) .z)) .z))
def S156 : bC Tryz.prog P156 156 :=λ_ _ _ _=>.mk _
def P157 : Pl :=(.n none .z (.n none .z (.n none .z (.n none (.n none .z (.n none (.n (some [14,13,12,4,3]) .z .z) .z)) .z))))
def S157 : aQ Tryz.prog P157 157 :=λ_ _ _=>.mk _
def P158 : Pl :=.z
def S158 : aQ Tryz.prog P158 158 :=λ_ _ _=>.mk _
def P159 : Pl :=.z
def S159 : bC Tryz.prog P159 159 :=λ_ _ _ _=>.mk _
def P160 : Pl :=(.n none .z (.n none .z (.n none (.n none .z (.n (some []) (.n none .z (.n none .z (.n none .z (.n none .z (.n none .z (.n none .z (.n none .z (.n none .z (.n none .z (.n none .z (.n none .z (.n none .z (.n none .z (.n none .z (.n none .z (.n none .z (.n none .z (.n none .z (.n none .z (.n none .z (.n none .z (.n none .z (.n none .z (.n none .z (.n (some [120,6,5,3,0]) .z .z))))))))))))))))))))))))) .z)) .z)))
def S160 : bC Tryz.prog P160 160 :=λ_ _ _ _=>.mk _
def P161 : Pl :=(.n none .z (.n none (.n none (.r [[17,13,1,0]]) .z) .z))
def S161 : bC Tryz.prog P161 161 :=λ_ _ _ _=>.mk _
def P162 : Pl :=.z
def S162 : bC Tryz.prog P162 162 :=λ_ _ _ _=>.mk _
def P163 : Pl :=.z
def S163 : aQ Tryz.prog P163 163 :=λ_ _ _=>.mk _
def P164 : Pl :=(.n none .z (.n none (.n none .z (.n none (.n (some [9,8,7,1,0]) .z .z) .z)) .z))
def S164 : bC Tryz.prog P164 164 :=λ_ _ _ _=>.mk _
def P165 : Pl :=.z
def S165 : aQ Tryz.prog P165 165 :=λ_ _ _=>.mk _
def P166 : Pl :=.z
def S166 : aQ Tryz.prog P166 166 :=λ_ _ _=>.mk _
def P167 : Pl :=(.n none .z (.n none .z (.n none (.n none .z (.n none (.n (some [13,12,11,5,0]) .z .z) .z)) .z)))
def S167 : bC Tryz.prog P167 167 :=λ_ _ _ _=>.mk _
def P168 : Pl :=.z
def S168 : aQ Tryz.prog P168 168 :=λ_ _ _=>.mk _
def P171 : Pl :=.z
def S171 : aQ Tryz.prog P171 171 :=λ_ _ _=>.mk _
def P172 : Pl :=(.n none .z (.n none (.n none (.r [[13,10,3,0],[18,15,3,0]]) .z) .z))
def S172 : bC Tryz.prog P172 172 :=λ_ _ _ _=>.mk _
def P173 : Pl :=.z
def S173 : aQ Tryz.prog P173 173 :=λ_ _ _=>.mk _
def P174 : Pl :=.z
def S174 : cQ Tryz.prog P174 174 :=λ_ _ _ _ _=>.mk _
def P175 : Pl :=.z
def S175 : aQ Tryz.prog P175 175 :=λ_ _ _=>.mk _
def P176 : Pl :=.z
def S176 : aQ Tryz.prog P176 176 :=λ_ _ _=>.mk _
def P177 : Pl :=.z
def S177 : aQ Tryz.prog P177 177 :=λ_ _ _=>.mk _
def P178 : Pl :=.z
def S178 : aQ Tryz.prog P178 178 :=λ_ _ _=>.mk _
def P179 : Pl :=.z
def S179 : bC Tryz.prog P179 179 :=λ_ _ _ _=>.mk _
def P183 : Pl :=.z
def S183 : tx Tryz.prog P183 183 :=λ_ _=>.mk _
def P184 : Pl :=(.n none .z (.n none .z (.n none (.r [[21,17,5,4,1],[27,23,5,1],[33,29,1],[39,35,1],[42,39,35],[43,35]]) .z)))
def S184 : aQ Tryz.prog P184 184 :=λ_ _ _=>.mk _
end
end Go.Proofs.YthmopakmcboghaaGreatDoor
