/- Printed by a program of mine: the bodies of the program's functions aa terms of the primitives of the abstract executor, each shown equal by the kernel. -/
import Derived.Test.YtolpbdncppeohaaGreatDoorProg
import Derived.Test.YtolpbdncppeohaaGreatDoorTopBankAe1
import Derived.KernelRfl
namespace Go.Proofs.YtolpbdncppeohaaGreatDoor
open Go Go.Ae
abbrev BK : Type :=AV×AV×AV×AV×Unit
set_option maxRecDepth 100000
noncomputable section
attribute [local irreducible] xY wa gt yF jG UE KW gT Je G8 KQ kw ja xH zx zB w5 Nb nY UO tg wA Gr GC Nh w6 vW kB ym JR yY Jx Xo pf kF vn vG Ja vi wY Mr Kk XQ NF KZ Vi Be Ma ND MY ze vB YT Kh YD yI wQ CM GN HL xL yc GM AV.undef
set_option maxHeartbeats 40000000
def P3 : Pl :=(.n none .z (.n none .z (.n none .z (.n none .z (.n none .z (.n none (.n none .z (.n none (.n (some [11,10,9,4,3,1]) (.n none (.n none (.r [[49,47,11,10,9,4,3,1]]) .z) (.n none (.n none (.r [[11,10,9,4,3,1]]) .z) .z)) .z) .z)) (.n none .z (.n none .z (.n none .z (.n none .z (.n none .z (.n none (.n none .z (.n none (.n (some [15,14,13,9,3]) (.n none (.n none (.r [[101,99,15,14,13,9,3]]) .z) (.n none (.n none (.n none .z (.n none (.n (some [16,15,14,13,9,3]) (.n none .z (.n none (.n none (.n none .z (.n (some [17,16,15,14,13,9,3]) .z (.n none .z (.n none .z (.n none .z (.n none .z (.n none (.n none .z (.n none (.n (some [20,19,18,16,15,14,13,9,3]) .z .z) .z)) (.n none (.r [[154,150,19,16,15,13,9,3]]) (.n none (.r [[160,157,19,16,15,14,13,9,3],[165,162,16,15,14,13,9,3]]) .z))))))))) .z) .z)) .z) .z)) .z) .z)) .z) .z)) (.n none (.n none .z (.n none (.n (some [21,13,9]) (.n none .z (.n none (.n none (.n none .z (.n none .z (.n none (.n (some [23,22,21,13,9]) (.n none .z (.n none (.n none (.n none (.r [[203,23,22,21,13,9]]) .z) .z) .z)) .z) .z))) .z) .z)) .z) .z)) .z)))))))))))))
def S3 : lN Tryz.prog P3 3 :=λ_ _ _ _ _ _=>.mk _
def P4 : Pl :=(.n none .z (.n none .z (.n none .z (.n none (.n none .z (.n none (.n (some [2,1]) .z .z) .z)) (.n none .z (.n none (.r [[30,26,4,1],[35,32,4,1],[42,37,1],[46,44,1],[52,48]]) .z))))))
def S4 (c : CV) (h : AH) : R :=
vn [(iI 0),(iI 0),(iI 0),(iI 0),(uU 0)] [(0,1,(iI 40)),(1,1,(iI 4))] λv0=>
vn [(iI 0),(iI 0),(iI 0),(iI 0),(uU 0),(iI 0),(iI 0),(iI 0)] [(0,5,v0),(6,1,(iI 9)),(7,1,(iI 20))] λv1=>
ze c (.fn 15 [] []) [(iI 6)] h λv2 h3=>
vG h3 35 [.ak] 1 [(0,1,v2)] λv4 h5=>
vG h5 30 [.ak] 1 [(0,1,v4)] λv6 h7=>
ze c (.fn 7 [] []) [v1,v6] h7 λv8 h9=>
nY .ptr false v8 .aU λv10=>
xY v10 (
some ((.bool false),h9)) (
GM (σ :=AV×AV×Unit) NN (λi14 AG nP d13=>
zB .lss AG.1 (iI 40) λsi=>
xY si (
ze c (.fn 11 [] []) [AG.2.1,(iI 0),(.int .u8 (.ofNat 0))] nP λ_ nQ=>
zB .add AG.1 (iI 1) λnR=>
i14 (nR,AG.2.1,()) nQ d13) (
ze c (.fn 12 [] []) [AG.2.1] nP λrh pK=>
ze c (.fn 9 [] []) [AG.2.1,(iI 0)] pK λv21 PQ=>
Jx rh λri=>
zB .eql ri (iI 40) λv24=>
yc (α :=BK→AH→R) (λBL BM=>
gt BL.2.1 BL.1 (.bool false) λv28=>
yc (α :=BK→AH→R) (λBN E8=>
gt BN.2.1 BN.1 (.bool false) λum=>
yc (α :=AV×AV×AV×Unit→AH→R) (λE9 IC=>
gt E9.2.1 E9.1 (.bool false) λtD=>
yc (α :=AV×AV×AV×Unit→AH→R) (λfC Fa=>
gt fC.2.1 fC.1 (.bool false) λv40=>
yc (α :=AV×AV×Unit→AH→R) (λs41 ID=>
gt s41.2.1 s41.1 (.bool false) λBO=>
xL d13 ID λoW=>
some (BO,oW)) λj43=>
wa v40 true (
ze c (.fn 17 [] []) [fC.2.2.1] Fa λv46 PR=>
Jx v46 λDa=>
zB .eql Da (iI 1) λv49=>
j43 (v49,v40,()) PR) (
j43 (.undef,v40,()) Fa)) λj39=>
wa tD true (
ze c (.fn 16 [] []) [E9.2.2.1] IC λPS PU=>
j39 (PS,tD,E9.2.2.1,()) PU) (
j39 (.undef,tD,E9.2.2.1,()) IC)) λj35=>
wa um true (
gT BN.2.2.1 (iI 0) 4 λFb=>
jG Fb 2 λv53=>
ja E8 v53 λv54=>
Nb .eql v54 (.str [49]) λPV=>
j35 (PV,um,BN.2.2.2.1,()) E8) (
j35 (.undef,um,BN.2.2.2.1,()) E8)) λj31=>
wa v28 true (
Jx BL.2.2.1 λPW=>
zB .eql PW (iI 1) λFc=>
j31 (Fc,v28,BL.2.2.1,BL.2.2.2.1,()) BM) (
j31 (.undef,v28,BL.2.2.1,BL.2.2.2.1,()) BM)) λj27=>
wa v24 true (
gT rh (iI 6) 1 λDb=>
ja PQ Db λv59=>
zB .eql v59 (uU 1) λPX=>
j27 (PX,v24,v21,AG.2.1,()) PQ) (
j27 (.undef,v24,v21,AG.2.1,()) PQ))) ((iI 0),v8,()) h9 [])
def W4 : WF :=Ia S4
theorem W4_ok : hZ Tryz.prog 4 W4 :=Tv (pl :=P4) λ_ _=>by kernel_rfl
def P5 : Pl :=(.n none .z (.n none .z (.n none .z (.n none .z (.n none (.n none .z (.n none (.n (some [10,9,6]) .z .z) .z)) .z)))))
def S5 : dh Tryz.prog P5 5 :=λ_ _ _ _ _=>.mk _
def P6 : Pl :=(.n none .z (.n none (.r [[3,2,1]]) (.n none (.r [[3,2]]) .z)))
def S6 : aY Tryz.prog P6 6 :=λ_ _ _=>.mk _
def P7 : Pl :=(.n none .z (.n none .z (.n none .z (.n none .z (.n none (.r [[5,2,1]]) (.n none (.n none .z (.n none (.n (some [32,31,30,5,2,1]) (.n none .z (.n none .z (.n none (.n (some [32,31,30,5,2,1]) .z .z) .z))) .z) .z)) (.n none (.n none .z (.n none (.n (some [51,50,5,2,1]) (.n none .z (.n none .z (.n none (.n none (.n none .z (.n none .z (.n (some [51,50,9,8,5,2,1]) .z (.r [[51,50,5,2,1]])))) .z) .z))) .z) .z)) .z)))))))
def S7 : bN Tryz.prog P7 7 :=λ_ _ _ _=>.mk _
def P8 : Pl :=.z
def S8 : dh Tryz.prog P8 8 :=λ_ _ _ _ _=>.mk _
def P9 : Pl :=.z
def S9 : bN Tryz.prog P9 9 :=λ_ _ _ _=>.mk _
def P10 : Pl :=(.n none .z (.n none (.r [[4]]) .z))
def S10 : bN Tryz.prog P10 10 :=λ_ _ _ _=>.mk _
def P11 : Pl :=(.n none .z (.n none (.n none (.r [[19,12,2,1,0]]) .z) (.n none .z (.n none .z (.n none .z (.n none .z (.n none (.r [[1,0]]) (.n none .z (.n none (.n none .z (.n none (.n (some [80,79,78,1,0]) (.n none .z (.n none .z (.n none (.n (some [80,79,78,1,0]) .z .z) .z))) .z) .z)) .z)))))))))
def S11 : dh Tryz.prog P11 11 :=λ_ _ _ _ _=>.mk _
def P12 : Pl :=.z
def S12 : aY Tryz.prog P12 12 :=λ_ _ _=>.mk _
def P13 : Pl :=(.n none .z (.n none (.n none .z (.n none (.n (some [10,9,8]) .z .z) .z)) .z))
def S13 : aY Tryz.prog P13 13 :=λ_ _ _=>.mk _
def P14 : Pl :=(.n none .z (.n none .z (.n none (.n none (.n (some [3,0]) .z .z) .z) .z)))
def S14 : aY Tryz.prog P14 14 :=λ_ _ _=>.mk _
def P15 : Pl :=.z
def S15 : aY Tryz.prog P15 15 :=λ_ _ _=>.mk _
def P16 : Pl :=(.n none .z (.n none (.n none .z (.n none (.n (some [11,10,9]) (.n none .z (.n none .z (.n none (.n none (.n none .z (.n none .z (.n none (.r [[21,19,11,10,9]]) .z))) .z) .z))) .z) .z)) .z))
def S16 : aY Tryz.prog P16 16 :=λ_ _ _=>.mk _
def P17 : Pl :=(.n none .z (.n none .z (.n none (.n none .z (.n none (.n (some [11,10,9,3]) .z .z) .z)) .z)))
def S17 : aY Tryz.prog P17 17 :=λ_ _ _=>.mk _
def P18 : Pl :=(.n none .z (.n none .z (.n (some [1,0]) .z .z)))
def S18 : dh Tryz.prog P18 18 :=λ_ _ _ _ _=>.mk _
def P19 : Pl :=(.n none .z (.n none (.r [[2]]) .z))
def S19 : aY Tryz.prog P19 19 :=λ_ _ _=>.mk _
def P20 : Pl :=(.n none .z (.n none .z (.n none (.r [[2]]) .z)))
def S20 : aY Tryz.prog P20 20 :=λ_ _ _=>.mk _
def P21 : Pl :=.z
def S21 : aY Tryz.prog P21 21 :=λ_ _ _=>.mk _
def P22 : Pl :=(.n none .z (.n none .z (.n (some [5,4]) .z .z)))
def S22 : bN Tryz.prog P22 22 :=λ_ _ _ _=>.mk _
def P23 : Pl :=(.n none .z (.n none .z (.n none (.r [[7,2]]) (.n none (.n none .z (.n none (.n (some [29,28,27,7]) (.n none .z (.n none .z (.n none (.n none (.n none .z (.r [[29,28,27,7]])) .z) .z))) .z) .z)) .z))))
def S23 : dh Tryz.prog P23 23 :=λ_ _ _ _ _=>.mk _
def P24 : Pl :=(.n none .z (.n none (.n none (.r [[14,7,1,0]]) .z) .z))
def S24 : bN Tryz.prog P24 24 :=λ_ _ _ _=>.mk _
def P25 : Pl :=.z
def S25 : aY Tryz.prog P25 25 :=λ_ _ _=>.mk _
def P26 : Pl :=.z
def S26 : aY Tryz.prog P26 26 :=λ_ _ _=>.mk _
def P27 : Pl :=.z
def S27 : aY Tryz.prog P27 27 :=λ_ _ _=>.mk _
def P28 : Pl :=.z
def S28 : aY Tryz.prog P28 28 :=λ_ _ _=>.mk _
def P29 : Pl :=(.n none .z (.n none .z (.n (some []) (.n none .z (.n none (.n none .z (.n none .z (.n (some [3,2,0]) (.n none .z (.n none (.r [[43,41,3,2,0]]) .z)) .z))) (.n none .z (.n none .z (.n none .z (.n none (.n (some [5,0]) .z .z) .z)))))) .z)))
def S29 : lN Tryz.prog P29 29 :=λ_ _ _ _ _ _=>.mk _
def P30 : Pl :=(.n none .z (.n none .z (.n none (.n (some [19,18,17,2,1,0]) (.n none .z (.n none .z (.n none (.n none (.n none .z (.n none (.n none (.r [[31,27,19,18,17,2,1,0]]) .z) (.n (some []) (.n none .z (.n none .z (.n none (.r [[50,45,0]]) .z))) .z))) .z) .z))) .z) .z)))
def S30 : dh Tryz.prog P30 30 :=λ_ _ _ _ _=>.mk _
def P31 : Pl :=.z
def S31 : aY Tryz.prog P31 31 :=λ_ _ _=>.mk _
def P32 : Pl :=(.n none .z (.n none (.r [[13,8]]) .z))
def S32 : aY Tryz.prog P32 32 :=λ_ _ _=>.mk _
def P33 : Pl :=.z
def S33 : aY Tryz.prog P33 33 :=λ_ _ _=>.mk _
def P34 : Pl :=(.n none .z (.n none .z (.n none (.n none .z (.n none (.n (some [13,12,11,3,0]) .z .z) .z)) (.n (some [3]) .z .z))))
def S34 : aY Tryz.prog P34 34 :=λ_ _ _=>.mk _
def P35 : Pl :=.z
def S35 : aY Tryz.prog P35 35 :=λ_ _ _=>.mk _
def P36 : Pl :=.z
def S36 : aY Tryz.prog P36 36 :=λ_ _ _=>.mk _
def P37 : Pl :=.z
def S37 : bN Tryz.prog P37 37 :=λ_ _ _ _=>.mk _
def P38 : Pl :=.z
def S38 : aY Tryz.prog P38 38 :=λ_ _ _=>.mk _
def P39 : Pl :=.z
def S39 : aY Tryz.prog P39 39 :=λ_ _ _=>.mk _
def P40 : Pl :=(.n none .z (.n none .z (.n none (.n none .z (.n (some [5,4]) .z .z)) .z)))
def S40 : bN Tryz.prog P40 40 :=λ_ _ _ _=>.mk _
def P41 : Pl :=.z
def S41 : CO Tryz.prog P41 41 :=λ_ _=>.mk _
def P42 : Pl :=.z
def S42 : aY Tryz.prog P42 42 :=λ_ _ _=>.mk _
def P43 : Pl :=.z
def S43 : aY Tryz.prog P43 43 :=λ_ _ _=>.mk _
def P44 : Pl :=.z
def S44 : aY Tryz.prog P44 44 :=λ_ _ _=>.mk _
def P45 : Pl :=.z
def S45 (c : CV) (a0 : AV) (h : AH) : R :=
kF h 70 (.agg [(iI 0),(iI 0),(uU 0),(uU 0),(uU 0),(.bool false),(iI 0),(uU 0),(.bool false),(iI 0)]) λv0 h1=>
yF a0 λv2=>
jG v2 14 λv3=>
ja h1 v3 λv4=>
zB .eql v4 (iI 0) λv5=>
xY v5 (
yF a0 λv6=>
jG v6 0 λv7=>
ja h1 v7 λv8=>
vn [(iI 0),(iI 0),(uU 0),(uU 0),(uU 0),(.bool false),(iI 0),(uU 0),(.bool false),(iI 0)] [(0,1,(iI 9)),(1,1,v8),(3,1,(uU 1))] λv9=>
zx h1 v0 v9 10 λfk=>
xH fk v0 10 λv11=>
some ((.bV [v11,(.bool true)]),fk)) (
zB .eql v4 (iI 1) λv12=>
xY v12 (
vn [(iI 0),(iI 0),(uU 0),(uU 0),(uU 0),(.bool false),(iI 0),(uU 0),(.bool false),(iI 0)] [(0,1,(iI 6))] λsj=>
zx h1 v0 sj 10 λBP=>
xH BP v0 10 λsi=>
some ((.bV [si,(.bool true)]),BP)) (
zB .eql v4 (iI 2) λsk=>
xY sk (
yF a0 λpL=>
jG pL 0 λnR=>
ja h1 nR λrh=>
yF a0 λv20=>
jG v20 21 λv21=>
ja h1 v21 λv22=>
zB .add v22 (uU 1) λri=>
vn [(iI 0),(iI 0),(uU 0),(uU 0),(uU 0),(.bool false),(iI 0),(uU 0),(.bool false),(iI 0)] [(0,1,(iI 9)),(1,1,rh),(3,1,ri)] λv24=>
zx h1 v0 v24 10 λh25=>
xH h25 v0 10 λuo=>
some ((.bV [uo,(.bool true)]),h25)) (
zB .eql v4 (iI 7) λBQ=>
xY BQ (
yF a0 λv28=>
jG v28 0 λPY=>
ja h1 PY λv30=>
vn [(iI 0),(iI 0),(uU 0),(uU 0),(uU 0),(.bool false),(iI 0),(uU 0),(.bool false),(iI 0)] [(0,1,(iI 9)),(1,1,v30)] λv31=>
zx h1 v0 v31 10 λBR=>
xH BR v0 10 λuq=>
some ((.bV [uq,(.bool true)]),BR)) (
zB .eql v4 (iI 8) λPZ=>
xY PZ (
vn [(iI 0),(iI 0),(uU 0),(uU 0),(uU 0),(.bool false),(iI 0),(uU 0),(.bool false),(iI 0)] [] λDc=>
zx h1 v0 Dc 10 λh36=>
xH h36 v0 10 λv37=>
some ((.bV [v37,(.bool false)]),h36)) (
yF a0 λFe=>
jG Fe 15 λP0=>
ja h1 P0 λv40=>
vB c [(77,27),(103,45),(151,353),(152,361),(153,364),(363,295)] v40 [] h1 λDd ID=>
yY Dd 0 λBS=>
yY Dd 1 λBO=>
zx ID v0 BS 10 λoW=>
xH oW v0 10 λv46=>
some ((.bV [v46,BO]),oW))))))
def W45 : WF :=Ag S45
theorem W45_ok : hZ Tryz.prog 45 W45 :=Uf (pl :=P45) λ_ _ _=>by kernel_rfl
def P46 : Pl :=(.n none .z (.n none (.n (some [0]) (.n none .z (.n none .z (.n none .z (.n none (.n none .z (.n none (.n none .z (.n none (.n (some [62,61,60,2,0]) .z .z) .z)) .z)) .z)))) .z) .z))
def S46 : aY Tryz.prog P46 46 :=λ_ _ _=>.mk _
def P47 : Pl :=.z
def S47 : aY Tryz.prog P47 47 :=λ_ _ _=>.mk _
def P48 : Pl :=(.n none .z (.n none .z (.n none .z (.n none .z (.n (some []) (.n none .z (.n none .z (.n none .z (.n none (.n none (.r [[0]]) .z) .z)))) .z)))))
def S48 (c : CV) (a0 a1 : AV) (h : AH) : R :=
kF h 75 a1 λv0 h1=>
yF a0 λv2=>
jG v2 14 λv3=>
ja h1 v3 λv4=>
zB .eql v4 (iI 8) λv5=>
xY v5 (
some ((.bV []),h1)) (
jG v0 5 λv6=>
ja h1 v6 λv7=>
zB .neq v7 (iI 0) λv8=>
xY v8 (
jG v0 5 λv9=>
ja h1 v9 λv10=>
ze c (.fn 71 [] []) [a0,(iI 4),v10,(.int .i64 (.negSucc 0))] h1 λ_ nP=>
yF a0 λsj=>
jG sj 14 λur=>
zx nP ur (iI 8) 1 λrj=>
some ((.bV []),rj)) (
yF a0 λsk=>
jG sk 14 λpL=>
ja h1 pL λnR=>
yc (α :=Unit→AH→List Nat→R) (λ_ pK d21=>
xL d21 pK λtE=>
some ((.bV []),tE)) λj22=>
zB .eql nR (iI 0) λv24=>
xY v24 (
yF a0 λrk=>
jG rk 14 λuo=>
zx h1 uo (iI 1) 1 λBU=>
j22 (()) BU []) (
zB .eql nR (iI 1) λv28=>
xY v28 (
yc (α :=AV×Unit→AH→R) (λBN E8=>
yF BN.1 λum=>
jG um 14 λuq=>
zx E8 uq (iI 2) 1 λIC=>
j22 (()) IC []) λj31=>
jG v0 0 λDc=>
ja h1 Dc λtD=>
jG v0 0 λv37=>
ja h1 v37 λFe=>
yF a0 λP0=>
jG P0 19 λv40=>
zx h1 v40 (.bool true) 1 λIE=>
yF a0 λDe=>
jG De 20 λBS=>
zx IE BS tD 1 λP1=>
yF a0 λFf=>
jG Ff 21 λv46=>
zx P1 v46 Fe 1 λPR=>
Kh v37 none Fe IE P1 h1.nx<|
Kh v37 none Fe h1 IE h1.nx<|
Kh Dc none tD h1 IE h1.nx<|
j31 (a0,()) PR) (
zB .eql nR (iI 2) λDa=>
xY Da (
ze c (.fn 72 [] []) [a0] h1 λ_ h50=>
j22 (()) h50 []) (
zB .eql nR (iI 7) λv51=>
xY v51 (
yF a0 λFb=>
jG Fb 14 λv53=>
zx h1 v53 (iI 8) 1 λIF=>
j22 (()) IF []) (
yF a0 λPV=>
jG PV 15 λPW=>
ja h1 PW λFc=>
xH h1 v0 6 λDb=>
vB c [(77,29),(103,48),(151,354),(152,362),(153,365)] Fc [Db] h1 λ_ h60=>
ze c (.fn 73 [] []) [a0] h60 λ_ h62=>
j22 (()) h62 []))))))
def W48 : WF :=DP S48
theorem W48_ok : hZ Tryz.prog 48 W48 :=Lq (pl :=P48) λ_ _ _ _=>by kernel_rfl
def P49 : Pl :=.z
def S49 : aY Tryz.prog P49 49 :=λ_ _ _=>.mk _
def P50 : Pl :=(.n none .z (.n none (.r [[6,1,0]]) (.n none .z (.n (some []) (.n none .z (.n none (.n none .z (.n none (.n none (.r [[87,6,1,0]]) .z) .z)) (.n none .z (.n none .z (.n none .z (.n none .z (.n none (.r [[6,0]]) (.n none (.r [[0]]) .z)))))))) .z))))
def S50 : dh Tryz.prog P50 50 :=λ_ _ _ _ _=>.mk _
def P51 : Pl :=(.n none .z (.n none (.n none (.r [[12,9,4,2,0],[20,14,4,2,0],[27,20,14,4,2,0],[28,14,4,2,0]]) (.n none (.n none (.r [[]]) .z) .z)) .z))
def S51 : dh Tryz.prog P51 51 :=λ_ _ _ _ _=>.mk _
def P52 : Pl :=.z
def S52 : bN Tryz.prog P52 52 :=λ_ _ _ _=>.mk _
def P53 : Pl :=.z
def S53 : aY Tryz.prog P53 53 :=λ_ _ _=>.mk _
def P54 : Pl :=(.n none .z (.n none (.r [[12,8]]) .z))
def S54 : aY Tryz.prog P54 54 :=λ_ _ _=>.mk _
def P55 : Pl :=.z
def S55 : aY Tryz.prog P55 55 :=λ_ _ _=>.mk _
def P56 : Pl :=(.n none .z (.n none (.r [[13,8,0],[21,15,0],[27,21,15],[28,15]]) .z))
def S56 : aY Tryz.prog P56 56 :=λ_ _ _=>.mk _
def P57 : Pl :=(.n none .z (.n none (.r [[2,1]]) .z))
def S57 : aY Tryz.prog P57 57 :=λ_ _ _=>.mk _
def P58 : Pl :=(.n none .z (.n none .z (.n none .z (.n none .z (.n (some [8,6,5,4,1,0]) .z (.n none (.r [[4]]) .z))))))
def S58 : bN Tryz.prog P58 58 :=λ_ _ _ _=>.mk _
def P59 : Pl :=.z
def S59 : bN Tryz.prog P59 59 :=λ_ _ _ _=>.mk _
def P60 : Pl :=.z
def S60 : bN Tryz.prog P60 60 :=λ_ _ _ _=>.mk _
def P61 : Pl :=.z
def S61 : dh Tryz.prog P61 61 :=λ_ _ _ _ _=>.mk _
def P62 : Pl :=.z
def S62 : bN Tryz.prog P62 62 :=λ_ _ _ _=>.mk _
def P63 : Pl :=.z
def S63 (c : CV) (a0 a1 a2 a3 : AV) (h : AH) : R :=
kF h 68 a2 λv0 h1=>
kF h1 68 a3 λv2 h3=>
xH h3 v2 3 λv4=>
ze c (.fn 94 [] []) [a0,a1,v4] h3 λv5 h6=>
zB .neq v5 (iI 0) λv7=>
xY v7 (
some ((.bV [(.bool false),v5]),h6)) (
yF a0 λv8=>
jG v8 0 λv9=>
ja h6 v9 λv10=>
gT v10 a1 3 λv11=>
xH h6 v11 3 λv12=>
xH h6 v0 3 λsj=>
UO [.mO .int 0,.mO .bool 1,.mO .int 2] true v12 sj λur=>
xY ur (
some ((.bV [(.bool false),(iI 0)]),h6)) (
yF a0 λsi=>
jG si 0 λsk=>
ja h6 sk λpL=>
xH h6 v2 3 λnR=>
gT pL a1 3 λrh=>
zx h6 rh nR 3 λpK=>
some ((.bV [(.bool true),(iI 0)]),pK)))
def W63 : WF :=Lr S63
theorem W63_ok : hZ Tryz.prog 63 W63 :=jXt (pl :=P63) λ_ _ _ _ _ _=>by kernel_rfl
def P64 : Pl :=(.n none .z (.n none .z (.n (some [7]) .z .z)))
def S64 : dh Tryz.prog P64 64 :=λ_ _ _ _ _=>.mk _
def P65 : Pl :=.z
def S65 : aY Tryz.prog P65 65 :=λ_ _ _=>.mk _
def P66 : Pl :=.z
def S66 : dh Tryz.prog P66 66 :=λ_ _ _ _ _=>.mk _
def P67 : Pl :=.z
def S67 : bN Tryz.prog P67 67 :=λ_ _ _ _=>.mk _
def P68 : Pl :=.z
def S68 : dh Tryz.prog P68 68 :=λ_ _ _ _ _=>.mk _
def P69 : Pl :=.z
def S69 : dh Tryz.prog P69 69 :=λ_ _ _ _ _=>.mk _
def P70 : Pl :=.z
def S70 : dh Tryz.prog P70 70 :=λ_ _ _ _ _=>.mk _
def P71 : Pl :=.z
def S71 : lN Tryz.prog P71 71 :=λ_ _ _ _ _ _=>.mk _
def P72 : Pl :=(.n none .z (.n none .z (.n (some []) (.n none .z (.n none .z (.n none .z (.n none .z (.n none .z (.n none .z (.n none .z (.n none .z (.n none (.r [[0]]) .z))))))))) .z)))
def S72 : aY Tryz.prog P72 72 :=λ_ _ _=>.mk _
def P73 : Pl :=(.n none (.n none .z (.n (some [0]) .z .z)) .z)
def S73 (c : CV) (a0 : AV) (h : AH) : R :=
yF a0 λv0=>
jG v0 15 λv1=>
ja h v1 λv2=>
vB c [(103,49),(151,160),(152,165),(153,87),(215,114)] v2 [] h λv3 h4=>
yc (α :=AV×Unit→AH→List Nat→R) (λs5 h6 d7=>
ze c (.fn 56 [] []) [s5.1] h6 λv9 fk=>
xY v9 (
yF s5.1 λv11=>
jG v11 18 λv12=>
ja fk v12 λsj=>
ze c (.fn 106 [] []) [sj] fk λur rj=>
yF s5.1 λsk=>
jG sk 21 λpL=>
zx rj pL ur 1 λDf=>
xL d7 Df λFg=>
some ((.bV []),Fg)) (
xL d7 fk λpK=>
some ((.bV []),pK))) λj8=>
zB .eql v3 (iI 0) λv21=>
xY v21 (
j8 (a0,()) h4 []) (
zB .eql v3 (iI 5) λv22=>
xY v22 (
yF a0 λri=>
jG ri 15 λv24=>
ja h4 v24 λrk=>
vB c [(103,74),(151,352),(152,360),(153,363),(215,355)] rk [] h4 λuo BU=>
ze c (.fn 71 [] []) [a0,(iI 5),(iI 0),uo] BU λ_ tF=>
j8 (a0,()) tF []) (
ze c (.fn 105 [] []) [a0] h4 λ_ h31=>
j8 (a0,()) h31 []))
def W73 : WF :=Ag S73
theorem W73_ok : hZ Tryz.prog 73 W73 :=Uf (pl :=P73) λ_ _ _=>by kernel_rfl
def P74 : Pl :=.z
def S74 : aY Tryz.prog P74 74 :=λ_ _ _=>.mk _
def P75 : Pl :=(.n none .z (.n none (.n none .z (.n none (.n (some [11,10,4,1,0]) .z .z) .z)) .z))
def S75 : bN Tryz.prog P75 75 :=λ_ _ _ _=>.mk _
def P76 : Pl :=(.n (some [0]) (.n none .z (.n none (.n none .z (.n none (.n (some [14,13,12,0]) .z .z) .z)) .z)) .z)
def S76 : bN Tryz.prog P76 76 :=λ_ _ _ _=>.mk _
def P77 : Pl :=.z
def S77 : aY Tryz.prog P77 77 :=λ_ _ _=>.mk _
def P78 : Pl :=(.n none .z (.n none (.n none (.r [[11,6,0]]) .z) .z))
def S78 : aY Tryz.prog P78 78 :=λ_ _ _=>.mk _
def P79 : Pl :=.z
def S79 : aY Tryz.prog P79 79 :=λ_ _ _=>.mk _
def P80 : Pl :=(.n none .z (.n none (.n (some [10,9,8,1,0]) .z .z) .z))
def S80 : dh Tryz.prog P80 80 :=λ_ _ _ _ _=>.mk _
def P81 : Pl :=.z
def S81 : aY Tryz.prog P81 81 :=λ_ _ _=>.mk _
def P82 : Pl :=.z
def S82 : aY Tryz.prog P82 82 :=λ_ _ _=>.mk _
def P83 : Pl :=(.n (some [0]) .z .z)
def S83 : aY Tryz.prog P83 83 :=λ_ _ _=>.mk _
def P84 : Pl :=.z
def S84 : aY Tryz.prog P84 84 :=λ_ _ _=>.mk _
def P85 : Pl :=.z
def S85 : aY Tryz.prog P85 85 :=λ_ _ _=>.mk _
def P86 : Pl :=(.n none .z (.n none (.r [[10,7]]) .z))
def S86 : aY Tryz.prog P86 86 :=λ_ _ _=>.mk _
def P87 : Pl :=.z
def S87 : aY Tryz.prog P87 87 :=λ_ _ _=>.mk _
def P88 : Pl :=.z
def S88 : aY Tryz.prog P88 88 :=λ_ _ _=>.mk _
def P89 : Pl :=.z
def S89 : aY Tryz.prog P89 89 :=λ_ _ _=>.mk _
def P90 : Pl :=.z
def S90 : aY Tryz.prog P90 90 :=λ_ _ _=>.mk _
def P91 : Pl :=.z
def S91 : aY Tryz.prog P91 91 :=λ_ _ _=>.mk _
def P92 : Pl :=(.n none .z (.n none (.r [[14,7]]) .z))
def S92 : bN Tryz.prog P92 92 :=λ_ _ _ _=>.mk _
def P93 : Pl :=(.n none .z (.n none (.r [[14,7]]) .z))
def S93 : bN Tryz.prog P93 93 :=λ_ _ _ _=>.mk _
def P94 : Pl :=.z
def S94 : dh Tryz.prog P94 94 :=λ_ _ _ _ _=>.mk _
def P95 : Pl :=(.n none .z (.n none (.r [[14,7]]) .z))
def S95 : bN Tryz.prog P95 95 :=λ_ _ _ _=>.mk _
def P96 : Pl :=(.n none .z (.n none .z (.n none (.r [[4]]) .z)))
def S96 : bN Tryz.prog P96 96 :=λ_ _ _ _=>.mk _
def P97 : Pl :=(.n none .z (.n none .z (.n none .z (.n none (.r [[6]]) .z))))
def S97 : dh Tryz.prog P97 97 :=λ_ _ _ _ _=>.mk _
def P98 : Pl :=(.n none .z (.n none (.n none .z (.n none (.n none (.r [[3,2]]) .z) .z)) (.n none (.n none (.n (some [0]) .z .z) .z) .z)))
def S98 : aY Tryz.prog P98 98 :=λ_ _ _=>.mk _
def P99 : Pl :=(.n none (.r [[0]]) .z)
def S99 : bN Tryz.prog P99 99 :=λ_ _ _ _=>.mk _
def P100 : Pl :=.z
def S100 : aY Tryz.prog P100 100 :=λ_ _ _=>.mk _
def P101 : Pl :=(.n none (.r [[1,0]]) .z)
def S101 : bN Tryz.prog P101 101 :=λ_ _ _ _=>.mk _
def P102 : Pl :=.z
def S102 : aY Tryz.prog P102 102 :=λ_ _ _=>.mk _
def P103 : Pl :=.z
def S103 : HQ Tryz.prog P103 103 :=λ_ _ _ _ _ _ _ _ _=>.mk _
def P104 : Pl :=.z
def S104 : dh Tryz.prog P104 104 :=λ_ _ _ _ _=>.mk _
def P105 : Pl :=(.n none .z (.n (some []) (.n none .z (.n none .z (.n none .z (.n none .z (.n none .z (.n none .z (.n none .z (.n none (.r [[]]) .z)))))))) .z))
def S105 : aY Tryz.prog P105 105 :=λ_ _ _=>.mk _
def P106 : Pl :=.z
def S106 : aY Tryz.prog P106 106 :=λ_ _ _=>.mk _
def P107 : Pl :=(.n none .z (.n none (.r [[8,6]]) .z))
def S107 : aY Tryz.prog P107 107 :=λ_ _ _=>.mk _
def P108 : Pl :=.z
def S108 : aY Tryz.prog P108 108 :=λ_ _ _=>.mk _
def P109 : Pl :=(.n none .z (.n none .z (.n none (.n none .z (.n none (.n (some [17,16,15,3]) .z .z) .z)) .z)))
def S109 (c : CV) (a0 : AV) (h : AH) : R :=
yF a0 λv0=>
jG v0 0 λv1=>
ja h v1 λv2=>
Jx v2 λv3=>
Ja h 9 [(.str [])] v3 v3 λv4 h5=>
yF a0 λv6=>
jG v6 0 λv7=>
ja h5 v7 λv8=>
Jx v8 λv9=>
GM (σ :=BK) NN (λi13 ig dy d12=>
zB .lss ig.1 ig.2.1 λur=>
xY ur (
gT ig.2.2.1 ig.1 1 λsi=>
ja dy si λsk=>
ze c (.fn 136 [] []) [sk] dy λpL Df=>
gT ig.2.2.2.1 ig.1 1 λrh=>
zx Df rh pL 1 λpK=>
zB .add ig.1 (iI 1) λv21=>
i13 (v21,ig.2.1,ig.2.2.1,ig.2.2.2.1,()) pK d12) (
ze c (.fn 137 [] []) [ig.2.2.2.1,(.str [32])] dy λv22 tE=>
xL d12 tE λP2=>
some (v22,P2))) ((iI 0),v9,v8,v4,()) h5 []
def W109 : WF :=Ag S109
theorem W109_ok : hZ Tryz.prog 109 W109 :=Uf (pl :=P109) λ_ _ _=>by kernel_rfl
def P110 : Pl :=.z
def S110 : aY Tryz.prog P110 110 :=λ_ _ _=>.mk _
def P111 : Pl :=.z
def S111 : aY Tryz.prog P111 111 :=λ_ _ _=>.mk _
def P112 : Pl :=(.n none .z (.n none .z (.n none (.n none .z (.n none (.n (some [14,13,12,6,5,1,0]) (.n none .z (.n none .z (.n none (.n (some [14,13,12,6,5,1,0]) .z .z) .z))) .z) .z)) .z)))
def S112 : bN Tryz.prog P112 112 :=λ_ _ _ _=>.mk _
def P113 : Pl :=.z
def S113 : aY Tryz.prog P113 113 :=λ_ _ _=>.mk _
def P114 : Pl :=.z
def S114 : aY Tryz.prog P114 114 :=λ_ _ _=>.mk _
def P115 : Pl :=(.n none .z (.n none .z (.n none (.n none .z (.n none (.n (some [17,16,15,3,0]) .z .z) .z)) .z)))
def S115 : aY Tryz.prog P115 115 :=λ_ _ _=>.mk _
def P116 : Pl :=(.n none .z (.n none (.n none .z (.n none (.n none (.r [[11,8]]) .z) .z)) (.n none (.r [[19,16]]) .z)))
def S116 : aY Tryz.prog P116 116 :=λ_ _ _=>.mk _
def P117 : Pl :=.z
def S117 : bN Tryz.prog P117 117 :=λ_ _ _ _=>.mk _
def P118 : Pl :=.z
def S118 : aY Tryz.prog P118 118 :=λ_ _ _=>.mk _
def P119 : Pl :=(.n none .z (.n none (.n none (.r [[16,12,1]]) .z) (.n none .z (.n none (.n none .z (.n none (.n (some [21,20,19,4,1]) .z .z) .z)) (.n none .z (.n none (.r [[3,2]]) .z))))))
def S119 : aY Tryz.prog P119 119 :=λ_ _ _=>.mk _
def P120 : Pl :=(.n none .z (.n none .z (.n none .z (.n none .z (.n none (.n none .z (.n none (.n (some [27,26,6,5,1]) .z .z) .z)) (.n none (.n none .z (.n none (.n (some [37,36,35,6,5,1]) (.n none .z (.n none .z (.n none (.n (some [37,36,35,6,5,1]) .z .z) .z))) .z) .z)) (.n none (.n none .z (.n none (.n (some [57,56,55,6,5]) (.n none .z (.n none .z (.n none (.n (some [57,56,55,6,5]) .z .z) .z))) .z) .z)) .z)))))))
def S120 : aY Tryz.prog P120 120 :=λ_ _ _=>.mk _
def P121 : Pl :=.z
def S121 : CO Tryz.prog P121 121 :=λ_ _=>.mk _
def P122 : Pl :=(.n none .z (.n none (.n none (.n (some [0]) (.n none .z (.n (some [0]) (.n none .z (.n none .z (.n none .z (.n none .z (.n (some [0]) .z .z))))) .z)) .z) .z) .z))
def S122 : aY Tryz.prog P122 122 :=λ_ _ _=>.mk _
def P123 : Pl :=.z
def S123 : aY Tryz.prog P123 123 :=λ_ _ _=>.mk _
def P124 : Pl :=(.n none .z (.n none .z (.n (some [7,5,1,0]) (.n none (.r [[19,18,7,5,1,0]]) .z) .z)))
def S124 : bN Tryz.prog P124 124 :=λ_ _ _ _=>.mk _
def P125 : Pl :=.z
def S125 : rz Tryz.prog P125 125 :=λ_ _ _ _ _ _ _=>.mk _
def P126 : Pl :=.z
def S126 : dh Tryz.prog P126 126 :=λ_ _ _ _ _=>.mk _
def P127 : Pl :=.z
def S127 : dh Tryz.prog P127 127 :=λ_ _ _ _ _=>.mk _
def P128 : Pl :=(.n none .z (.n none .z (.n none (.n none .z (.n none (.n (some [3]) .z .z) .z)) .z)))
def S128 (c : CV) (a0 : AV) (h : AH) : R :=
kF h 118 .ak λv0 h1=>
yF a0 λv2=>
jG v2 1 λv3=>
ja h1 v3 λv4=>
ze c (.fn 154 [] []) [v4] h1 λv5 h6=>
YT c v5 [.yield (h6.new .lH).nx] ((h6.new .lH).new (.loop .ready none 128 [1,1,0,1,0] [3] [v0] h6.nx)) λ_ h7=>
wQ h7 (h6.new .lH).nx λp9 h8=>
GN p9 (
ja h8 v0 λv10=>
xL (h6.nx::[]) h8 λdy=>
some (v10,dy))<|
none
def W128 : WF :=Ag S128
theorem W128_ok : hZ Tryz.prog 128 W128 :=Uf (pl :=P128) λ_ _ _=>by kernel_rfl
def P129 : Pl :=.z
def S129 : bN Tryz.prog P129 129 :=λ_ _ _ _=>.mk _
def P130 : Pl :=(.n none .z (.n none .z (.n none (.n none .z (.n none (.n (some [13,12,11,7,2,1]) (.n none .z (.n none .z (.n none (.n (some [13,12,11,7,2,1]) .z .z) .z))) .z) .z)) .z)))
def S130 : dh Tryz.prog P130 130 :=λ_ _ _ _ _=>.mk _
def P131 : Pl :=.z
def S131 : aY Tryz.prog P131 131 :=λ_ _ _=>.mk _
def P132 : Pl :=(.n none .z (.n none (.r [[2,0]]) (.n none .z (.n (some []) (.n none .z (.n none (.n none (.r [[0]]) .z) .z)) .z))))
def S132 : aY Tryz.prog P132 132 :=λ_ _ _=>.mk _
def P133 : Pl :=.z
def S133 : aY Tryz.prog P133 133 :=λ_ _ _=>.mk _
def P134 : Pl :=.z
def S134 : aY Tryz.prog P134 134 :=λ_ _ _=>.mk _
def P135 : Pl :=.z
def S135 : aY Tryz.prog P135 135 :=λ_ _ _=>.mk _
def P136 : Pl :=.z
def S136 (c : CV) (a0 : AV) (h : AH) : R :=
ym 22 (uU 0) a0 λv0=>
yY v0 1 λv1=>
yY v0 0 λv2=>
xY v1 (
ze c (.fn 168 [] []) [v2,(iI 10)] h λv3 h4=>
some (v3,h4)) (
ym 4 (.bool false) a0 λv5=>
yY v5 1 λv6=>
yY v5 0 λv7=>
xY v6 (
xY v7 (
some ((.str [121,101,115]),h)) (
some ((.str [110,111]),h))) (
some ((.str [110,111,110,101]),h)))
def W136 : WF :=Ag S136
theorem W136_ok : hZ Tryz.prog 136 W136 :=Uf (pl :=P136) λ_ _ _=>by kernel_rfl
def P138 : Pl :=(.n none .z (.n none .z (.n none (.n none .z (.n none (.n (some [11,10,9,3]) .z .z) .z)) .z)))
def S138 : aY Tryz.prog P138 138 :=λ_ _ _=>.mk _
def P139 : Pl :=(.n none .z (.n none (.n none .z (.n none (.n (some [9,8,7,1]) (.n none .z (.n none .z (.n none (.n none (.n none .z (.n none (.r [[18,15,9,8,7,1]]) .z)) .z) .z))) .z) .z)) .z))
def S139 : bN Tryz.prog P139 139 :=λ_ _ _ _=>.mk _
def P140 : Pl :=(.n none .z (.n none (.r [[7,5]]) .z))
def S140 : aY Tryz.prog P140 140 :=λ_ _ _=>.mk _
def P141 : Pl :=.z
def S141 : aY Tryz.prog P141 141 :=λ_ _ _=>.mk _
def P142 : Pl :=(.n none .z (.n none (.n none (.n none .z (.n none .z (.n none (.r [[11,5,3,1]]) (.n none .z (.n none (.r [[33,29,5,1]]) (.n none .z (.n none (.r [[42,39]]) .z))))))) .z) .z))
def S142 : dh Tryz.prog P142 142 :=λ_ _ _ _ _=>.mk _
def P143 : Pl :=(.n none .z (.n (some [2,1,0]) .z (.n (some [0]) (.n none (.r [[19,17,1,0]]) .z) .z)))
def S143 : dh Tryz.prog P143 143 :=λ_ _ _ _ _=>.mk _
def P144 : Pl :=.z
def S144 : aY Tryz.prog P144 144 :=λ_ _ _=>.mk _
def P145 : Pl :=(.n none .z (.n none (.n none .z (.n none (.n (some [11,10,9,2,1]) (.n none .z (.n none .z (.n none (.n (some [11,10,9,2,1]) (.n none .z (.n none .z (.n none (.r [[33,26,11,10,9,7,6,2,1],[38,33,26,11,10,9,7,6,2,1],[39,26,11,10,9,7,6,2,1],[48,41,11,10,9,7,6,2,1],[58,48,41,11,10,9,6,2,1],[59,41,11,10,9,6,2,1]]) .z))) .z) .z))) .z) .z)) .z))
def S145 : bN Tryz.prog P145 145 :=λ_ _ _ _=>.mk _
def P146 : Pl :=(.n none .z (.n none .z (.n none .z (.n none (.n none .z (.n none (.n (some [14,13,12,4,3]) .z .z) .z)) .z))))
def S146 : aY Tryz.prog P146 146 :=λ_ _ _=>.mk _
def P147 : Pl :=.z
def S147 : aY Tryz.prog P147 147 :=λ_ _ _=>.mk _
def P148 : Pl :=.z
def S148 : bN Tryz.prog P148 148 :=λ_ _ _ _=>.mk _
def P149 : Pl :=(.n none .z (.n none .z (.n none (.n none .z (.n (some []) (.n none .z (.n none .z (.n none .z (.n none .z (.n none .z (.n none .z (.n none .z (.n none .z (.n none .z (.n none .z (.n none .z (.n none .z (.n none .z (.n none .z (.n none .z (.n none .z (.n none .z (.n none .z (.n none .z (.n none .z (.n none .z (.n none .z (.n none .z (.n none .z (.n (some [120,6,5,3,0]) .z .z))))))))))))))))))))))))) .z)) .z)))
def S149 : bN Tryz.prog P149 149 :=λ_ _ _ _=>.mk _
def P150 : Pl :=(.n none .z (.n none (.n none (.r [[17,13,1,0]]) .z) .z))
def S150 : bN Tryz.prog P150 150 :=λ_ _ _ _=>.mk _
def P151 : Pl :=.z
def S151 : bN Tryz.prog P151 151 :=λ_ _ _ _=>.mk _
def P152 : Pl :=.z
def S152 : aY Tryz.prog P152 152 :=λ_ _ _=>.mk _
def P153 : Pl :=(.n none .z (.n none (.n none .z (.n none (.n (some [9,8,7,1,0]) .z .z) .z)) .z))
def S153 : bN Tryz.prog P153 153 :=λ_ _ _ _=>.mk _
def P154 : Pl :=.z
def S154 : aY Tryz.prog P154 154 :=λ_ _ _=>.mk _
def P155 : Pl :=.z
def S155 : aY Tryz.prog P155 155 :=λ_ _ _=>.mk _
def P156 : Pl :=(.n none .z (.n none .z (.n none (.n none .z (.n none (.n (some [13,12,11,5,0]) .z .z) .z)) .z)))
def S156 : bN Tryz.prog P156 156 :=λ_ _ _ _=>.mk _
def P157 : Pl :=.z
def S157 : aY Tryz.prog P157 157 :=λ_ _ _=>.mk _
def P160 : Pl :=.z
def S160 : aY Tryz.prog P160 160 :=λ_ _ _=>.mk _
def P161 : Pl :=(.n none .z (.n none (.n none (.r [[13,10,3,0],[18,15,3,0]]) .z) .z))
def S161 : bN Tryz.prog P161 161 :=λ_ _ _ _=>.mk _
def P162 : Pl :=.z
def S162 : aY Tryz.prog P162 162 :=λ_ _ _=>.mk _
def P163 : Pl :=.z
def S163 : dh Tryz.prog P163 163 :=λ_ _ _ _ _=>.mk _
def P164 : Pl :=.z
def S164 : aY Tryz.prog P164 164 :=λ_ _ _=>.mk _
def P165 : Pl :=.z
def S165 : aY Tryz.prog P165 165 :=λ_ _ _=>.mk _
def P166 : Pl :=.z
def S166 : aY Tryz.prog P166 166 :=λ_ _ _=>.mk _
def P167 : Pl :=.z
def S167 : aY Tryz.prog P167 167 :=λ_ _ _=>.mk _
def P168 : Pl :=.z
def S168 : bN Tryz.prog P168 168 :=λ_ _ _ _=>.mk _
def P172 : Pl :=.z
def S172 : CO Tryz.prog P172 172 :=λ_ _=>.mk _
def P173 : Pl :=(.n none .z (.n none .z (.n none (.r [[21,17,5,4,1],[27,23,5,1],[33,29,1],[39,35,1],[42,39,35],[43,35]]) .z)))
def S173 : aY Tryz.prog P173 173 :=λ_ _ _=>.mk _
def P174 : Pl :=(.n none .z (.n none .z (.n none (.r [[4]]) .z)))
def S174 : bN Tryz.prog P174 174 :=λ_ _ _ _=>.mk _
def P175 : Pl :=(.n none .z (.n none (.r [[7,5]]) .z))
def S175 : aY Tryz.prog P175 175 :=λ_ _ _=>.mk _
def P176 : Pl :=(.n none .z (.n none (.r [[7,5]]) .z))
def S176 : aY Tryz.prog P176 176 :=λ_ _ _=>.mk _
def P177 : Pl :=.z
def S177 : aY Tryz.prog P177 177 :=λ_ _ _=>.mk _
def P178 : Pl :=.z
def S178 : bN Tryz.prog P178 178 :=λ_ _ _ _=>.mk _
end
end Go.Proofs.YtolpbdncppeohaaGreatDoor
