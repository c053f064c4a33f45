/- Printed by a program of mine: the bodies of the program's functions aa terms of the primitives of the abstract executor, each shown equal by the kernel. -/
import Derived.Test.YthmopakmcboghaaGreatDoorProg
import Derived.Test.YthmopakmcboghaaGreatDoorMachineWakesAe1
import Derived.KernelRfl
namespace Go.Proofs.YthmopakmcboghaaGreatDoor
open Go Go.Ae
abbrev rX : Type :=AV×AV×AV×AV×AV×AV×AV×AV×AV×Unit
set_option maxRecDepth 100000
noncomputable section
attribute [local irreducible] zP kL kV xM qn Y9 YJ vt QJ Xp Xs gA jB zc jU jo wL M6 mM GG ow vH Xc Xx Gn vp yQ gD xu kp xv JJ Q8 nt gF vJ yC kr yO vB Uz YW QH Uc X5 Kk Z7 UX Ub Kf zA yz JT Xk JF xR vK uO Xw Ng zo yH YI AV.undef
set_option maxHeartbeats 40000000
def P185 : Pl :=(.n none .z (.n none .z (.n none (.r [[4]]) .z)))
def S185 : bC Tryz.prog P185 185 :=λ_ _ _ _=>.mk _
def P186 : Pl :=(.n none .z (.n none (.r [[7,5]]) .z))
def S186 : aQ Tryz.prog P186 186 :=λ_ _ _=>.mk _
def P187 : Pl :=(.n none .z (.n none (.r [[7,5]]) .z))
def S187 : aQ Tryz.prog P187 187 :=λ_ _ _=>.mk _
def P188 : Pl :=.z
def S188 : aQ Tryz.prog P188 188 :=λ_ _ _=>.mk _
def P189 : Pl :=.z
def S189 : bC Tryz.prog P189 189 :=λ_ _ _ _=>.mk _
def P190 : Pl :=(.n none .z (.n none .z (.n none (.n none .z (.n none (.n none .z (.n none (.n none (.r [[4]]) .z) (.n none .z (.n none (.n none (.r [[4]]) .z) (.n none .z (.n none (.n none (.r [[4]]) .z) (.n none .z (.n none (.n none (.r [[4]]) .z) (.n none .z (.n none (.n none (.r [[4]]) .z) (.n none .z (.n none (.n none (.r [[4]]) .z) (.n none .z (.n none .z (.n none .z (.n none .z (.n none .z (.n none (.n none (.r [[4]]) .z) (.n none .z (.n none (.n none (.r [[4]]) .z) (.n none .z (.n none (.n none (.r [[4]]) .z) .z)))))))))))))))))))))) .z)) .z)))
def S190 : bC Tryz.prog P190 190 :=λ_ _ _ _=>.mk _
def P191 : Pl :=(.n none .z (.n none (.n none .z (.n none (.n none .z (.n none (.n none .z (.n none .z (.n none .z (.n (some [10]) .z .z)))) (.n none .z (.n none .z (.n none .z (.n none (.n none .z (.n none .z (.n (some [15]) .z .z))) .z)))))) .z)) .z))
def S191 : iw Tryz.prog P191 191 :=λ_ _ _ _ _ _=>.mk _
def P192 : Pl :=(.n none .z (.n none (.n none .z (.n none (.n (some [7,6,3,0]) .z (.n none .z (.n (some [18,6,0]) .z .z))) .z)) .z))
def S192 : bC Tryz.prog P192 192 :=λ_ _ _ _=>.mk _
def P193 : Pl :=.z
def S193 : aQ Tryz.prog P193 193 :=λ_ _ _=>.mk _
def P194 : Pl :=(.n none .z (.n none (.n none (.n none (.r [[9,7,0]]) (.n none .z (.n none (.r [[18,16,0]]) .z))) .z) .z))
def S194 : aQ Tryz.prog P194 194 :=λ_ _ _=>.mk _
def P195 : Pl :=(.n none .z (.n none (.r [[14,7]]) .z))
def S195 : bC Tryz.prog P195 195 :=λ_ _ _ _=>.mk _
def P196 : Pl :=(.n none .z (.n none (.n none .z (.n none (.n (some [5,4,3]) .z .z) .z)) .z))
def S196 (c : CV) (a0 a1 : AV) (h : AH) : R :=
gF h 3 a1 λv0 h1=>
gF h1 24 (uU 0) λv2 h3=>
gF h3 4 (.bool false) λv4 h5=>
xM a0 λv6=>
qn v6 1 λv7=>
jB h5 v7 λv8=>
zA c (.fn 165 [] []) [v8] h5 λv9 eu=>
JT c v9 [.yield (eu.new .ij).nx] ((eu.new .ij).new (.loop .ready none 196 [1,0,1,0] [5,4,3] [v4,v2,v0] eu.nx)) λ_ dq=>
vK dq (eu.new .ij).nx λLo nS=>
Xw Lo (
jU nS v2 (uU 0) 1 λue=>
jU ue v4 (.bool false) 1 λmg=>
zo (eu.nx::[]) mg λsZ=>
jB sZ v2 λnR=>
jB sZ v4 λnf=>
some ((.bJ [nR,nf]),sZ))<|
uO Lo .ret (
zo (eu.nx::[]) nS λBX=>
jB BX v2 λv20=>
jB BX v4 λv21=>
some ((.bJ [v20,v21]),BX))<|
none
def W196 : WF :=AE S196
theorem W196_ok : fk Tryz.prog 196 W196 :=Ed (pl :=P196) λ_ _ _ _=>by kernel_rfl
def P197 : Pl :=(.n none .z (.n none .z (.n none .z (.n none (.n none .z (.n none (.n (some [20,19,18,5,0]) .z .z) .z)) .z))))
def S197 : bC Tryz.prog P197 197 :=λ_ _ _ _=>.mk _
def P198 : Pl :=(.n none .z (.n none (.n (some [3,1,0]) .z .z) .z))
def S198 : bC Tryz.prog P198 198 :=λ_ _ _ _=>.mk _
def P199 : Pl :=(.n none .z (.n none (.n none (.r [[12,10,2,1,0]]) .z) .z))
def S199 : cQ Tryz.prog P199 199 :=λ_ _ _ _ _=>.mk _
def P202 : Pl :=(.n none .z (.n none (.n none .z (.n none (.n (some [13,12,11,1]) .z .z) .z)) .z))
def S202 : bC Tryz.prog P202 202 :=λ_ _ _ _=>.mk _
def P203 : Pl :=.z
def S203 : bC Tryz.prog P203 203 :=λ_ _ _ _=>.mk _
def P206 : Pl :=(.n none .z (.n none .z (.n none (.n none .z (.n (some [4,3,2]) (.n (some [8,7,5,4,3,2]) .z (.n none .z (.n (some [13,7,5,4,3,2]) .z (.n none (.r [[4,3,2]]) (.n (some [18,7,5,4,3,2]) .z (.n none (.r [[4,3,2]]) (.n (some [27,7,5,4,3,2]) .z (.n none (.r [[4,3,2]]) .z)))))))) .z)) (.n none (.r [[4,3,2]]) .z))))
def S206 : aQ Tryz.prog P206 206 :=λ_ _ _=>.mk _
def P207 : Pl :=.z
def S207 : aQ Tryz.prog P207 207 :=λ_ _ _=>.mk _
def P208 : Pl :=(.n none .z (.n none (.r [[13,9]]) .z))
def S208 : bC Tryz.prog P208 208 :=λ_ _ _ _=>.mk _
def P209 : Pl :=.z
def S209 : bC Tryz.prog P209 209 :=λ_ _ _ _=>.mk _
def P210 : Pl :=.z
def S210 : bC Tryz.prog P210 210 :=λ_ _ _ _=>.mk _
def P211 : Pl :=(.n none .z (.n none .z (.n none .z (.n none (.r [[17,15,9]]) .z))))
def S211 : cQ Tryz.prog P211 211 :=λ_ _ _ _ _=>.mk _
def P212 : Pl :=(.n none .z (.n none .z (.n none .z (.n none (.r [[17,15,9]]) .z))))
def S212 : cQ Tryz.prog P212 212 :=λ_ _ _ _ _=>.mk _
def P213 : Pl :=(.n none .z (.n none .z (.n none .z (.n none (.r [[17,15,9]]) .z))))
def S213 : cQ Tryz.prog P213 213 :=λ_ _ _ _ _=>.mk _
def P214 : Pl :=(.n none .z (.n none .z (.n none .z (.n none (.r [[19,17,11]]) .z))))
def S214 : iw Tryz.prog P214 214 :=λ_ _ _ _ _ _=>.mk _
def P215 : Pl :=.z
def S215 : bC Tryz.prog P215 215 :=λ_ _ _ _=>.mk _
def P216 : Pl :=.z
def S216 : cQ Tryz.prog P216 216 :=λ_ _ _ _ _=>.mk _
def P217 : Pl :=(.n none .z (.n none .z (.n none .z (.n none (.r [[17,15,9]]) .z))))
def S217 : cQ Tryz.prog P217 217 :=λ_ _ _ _ _=>.mk _
def P218 : Pl :=.z
def S218 : cQ Tryz.prog P218 218 :=λ_ _ _ _ _=>.mk _
def P219 : Pl :=(.n none .z (.n none .z (.n none (.n none (.r [[24,22,9,8,7,4,0]]) .z) .z)))
def S219 : cQ Tryz.prog P219 219 :=λ_ _ _ _ _=>.mk _
def P220 : Pl :=(.n none .z (.n none .z (.n none .z (.n none (.r [[19,17,11]]) .z))))
def S220 : iw Tryz.prog P220 220 :=λ_ _ _ _ _ _=>.mk _
def P221 : Pl :=.z
def S221 : cQ Tryz.prog P221 221 :=λ_ _ _ _ _=>.mk _
def P222 : Pl :=(.n none .z (.n none .z (.n none .z (.n none (.r [[17,15,9]]) .z))))
def S222 : cQ Tryz.prog P222 222 :=λ_ _ _ _ _=>.mk _
def P223 : Pl :=.z
def S223 : iw Tryz.prog P223 223 :=λ_ _ _ _ _ _=>.mk _
def P224 : Pl :=(.n none .z (.n none (.n none (.r [[13,8,1,0],[20,15,1,0]]) .z) .z))
def S224 : bC Tryz.prog P224 224 :=λ_ _ _ _=>.mk _
def P225 : Pl :=.z
def S225 : cQ Tryz.prog P225 225 :=λ_ _ _ _ _=>.mk _
def P226 : Pl :=.z
def S226 : bC Tryz.prog P226 226 :=λ_ _ _ _=>.mk _
def P227 : Pl :=(.n none .z (.n none .z (.n (some [7,5,1,0]) (.n none (.r [[19,17,7,5,1,0]]) .z) (.n (some [7,1,0]) .z (.n (some [7]) .z .z)))))
def S227 : bC Tryz.prog P227 227 :=λ_ _ _ _=>.mk _
def P228 : Pl :=(.n none .z (.n none .z (.n none (.r [[]]) .z)))
def S228 : cQ Tryz.prog P228 228 :=λ_ _ _ _ _=>.mk _
def P229 : Pl :=.z
def S229 : aQ Tryz.prog P229 229 :=λ_ _ _=>.mk _
def P230 : Pl :=.z
def S230 : aQ Tryz.prog P230 230 :=λ_ _ _=>.mk _
def P231 : Pl :=.z
def S231 : bC Tryz.prog P231 231 :=λ_ _ _ _=>.mk _
def P232 : Pl :=.z
def S232 : aQ Tryz.prog P232 232 :=λ_ _ _=>.mk _
def P233 : Pl :=(.n none .z (.n none (.n none (.n (some [0]) .z .z) .z) .z))
def S233 : aQ Tryz.prog P233 233 :=λ_ _ _=>.mk _
def P234 : Pl :=.z
def S234 : bC Tryz.prog P234 234 :=λ_ _ _ _=>.mk _
def P235 : Pl :=.z
def S235 : aQ Tryz.prog P235 235 :=λ_ _ _=>.mk _
def P236 : Pl :=(.n none .z (.n none (.n none (.r [[14,12,2,1,0]]) .z) (.n none .z (.n none (.n none .z (.n none (.r [[32,29,7,2,1]]) .z)) .z))))
def S236 : cQ Tryz.prog P236 236 :=λ_ _ _ _ _=>.mk _
def P237 : Pl :=.z
def S237 : bC Tryz.prog P237 237 :=λ_ _ _ _=>.mk _
def P249 : Pl :=.z
def S249 (_ : CV) (a0 : AV) (h : AH) : R :=
jo .lss a0 (iI 10) λv0=>
zP v0 (
jo .add a0 (iI 1) λv1=>
vp (.str [48,49,50,51,52,53,54,55,56,57,97,98,99,100,101,102,103,104,105,106,107,108,109,110,111,112,113,114,115,116,117,118,119,120,121,122]) (some a0) (some v1) λv2=>
some (v2,h)) (
jo .mul a0 (iI 2) λv3=>
jo .mul a0 (iI 2) λv4=>
jo .add v4 (iI 2) λv5=>
vp (.str [48,48,48,49,48,50,48,51,48,52,48,53,48,54,48,55,48,56,48,57,49,48,49,49,49,50,49,51,49,52,49,53,49,54,49,55,49,56,49,57,50,48,50,49,50,50,50,51,50,52,50,53,50,54,50,55,50,56,50,57,51,48,51,49,51,50,51,51,51,52,51,53,51,54,51,55,51,56,51,57,52,48,52,49,52,50,52,51,52,52,52,53,52,54,52,55,52,56,52,57,53,48,53,49,53,50,53,51,53,52,53,53,53,54,53,55,53,56,53,57,54,48,54,49,54,50,54,51,54,52,54,53,54,54,54,55,54,56,54,57,55,48,55,49,55,50,55,51,55,52,55,53,55,54,55,55,55,56,55,57,56,48,56,49,56,50,56,51,56,52,56,53,56,54,56,55,56,56,56,57,57,48,57,49,57,50,57,51,57,52,57,53,57,54,57,55,57,56,57,57]) (some v3) (some v5) λv6=>
some (v6,h))
def W249 : WF :=sx S249
theorem W249_ok : fk Tryz.prog 249 W249 :=Gx (pl :=P249) λ_ _ _=>by kernel_rfl
def P252 : Pl :=(.n none .z (.n (some [11,10,4,3,2,1,0]) (.n none (.r [[23,21,11,10,4,3,2,1,0],[27,25,11,10,4,3,2,1,0]]) .z) (.n none .z (.n none .z (.n (some [13,12,11,10,4,3,2,1,0]) .z (.n (some [13,12,11,10,4,3,0]) (.n none .z (.n none (.n none .z (.n none .z (.n none .z (.n none (.n none (.n (some [16,15,14,13,12,11,10,4,3,1,0]) .z .z) .z) .z)))) (.n none .z (.n none (.n none (.n (some [17,13,12,11,10,4,3,1,0]) .z .z) .z) .z)))) (.n (some [13,12,11,10,4,0]) .z .z)))))))
def S252 (c : CV) (a0 a1 a2 a3 a4 : AV) (h : AH) : R :=
yH (α :=AV×AV×AV×AV×AV×AV×AV×Unit→AH→List Nat→R) (λs0 h1 d2=>
gF h1 343 (.agg [(.int .u8 (.ofNat 0)),(.int .u8 (.ofNat 0)),(.int .u8 (.ofNat 0)),(.int .u8 (.ofNat 0)),(.int .u8 (.ofNat 0)),(.int .u8 (.ofNat 0)),(.int .u8 (.ofNat 0)),(.int .u8 (.ofNat 0)),(.int .u8 (.ofNat 0)),(.int .u8 (.ofNat 0)),(.int .u8 (.ofNat 0)),(.int .u8 (.ofNat 0)),(.int .u8 (.ofNat 0)),(.int .u8 (.ofNat 0)),(.int .u8 (.ofNat 0)),(.int .u8 (.ofNat 0)),(.int .u8 (.ofNat 0)),(.int .u8 (.ofNat 0)),(.int .u8 (.ofNat 0)),(.int .u8 (.ofNat 0)),(.int .u8 (.ofNat 0)),(.int .u8 (.ofNat 0)),(.int .u8 (.ofNat 0)),(.int .u8 (.ofNat 0)),(.int .u8 (.ofNat 0)),(.int .u8 (.ofNat 0)),(.int .u8 (.ofNat 0)),(.int .u8 (.ofNat 0)),(.int .u8 (.ofNat 0)),(.int .u8 (.ofNat 0)),(.int .u8 (.ofNat 0)),(.int .u8 (.ofNat 0)),(.int .u8 (.ofNat 0)),(.int .u8 (.ofNat 0)),(.int .u8 (.ofNat 0)),(.int .u8 (.ofNat 0)),(.int .u8 (.ofNat 0)),(.int .u8 (.ofNat 0)),(.int .u8 (.ofNat 0)),(.int .u8 (.ofNat 0)),(.int .u8 (.ofNat 0)),(.int .u8 (.ofNat 0)),(.int .u8 (.ofNat 0)),(.int .u8 (.ofNat 0)),(.int .u8 (.ofNat 0)),(.int .u8 (.ofNat 0)),(.int .u8 (.ofNat 0)),(.int .u8 (.ofNat 0)),(.int .u8 (.ofNat 0)),(.int .u8 (.ofNat 0)),(.int .u8 (.ofNat 0)),(.int .u8 (.ofNat 0)),(.int .u8 (.ofNat 0)),(.int .u8 (.ofNat 0)),(.int .u8 (.ofNat 0)),(.int .u8 (.ofNat 0)),(.int .u8 (.ofNat 0)),(.int .u8 (.ofNat 0)),(.int .u8 (.ofNat 0)),(.int .u8 (.ofNat 0)),(.int .u8 (.ofNat 0)),(.int .u8 (.ofNat 0)),(.int .u8 (.ofNat 0)),(.int .u8 (.ofNat 0)),(.int .u8 (.ofNat 0))]) λv4 h5=>
yH (α :=rX→AH→List Nat→R) (λs6 h7 d8=>
yH (α :=AV×AV×AV×AV×AV×AV×AV×Unit→AH→List Nat→R) (λfc dq d12=>
yH (α :=AV×AV×AV×AV×AV×AV×Unit→AH→List Nat→R) (λs3 mg d16=>
zP s3.2.2.2.2.1 (
gD 65 1 s3.2.1 (some s3.1) none λnf=>
vB mg 5 1 s3.2.2.2.2.2.1 nf λrT pB=>
zo d16 pB λDE=>
some ((.bJ [rT,s3.2.2.1]),DE)) (
gD 65 1 s3.2.1 (some s3.1) none λv22=>
Xx mg v22 λrq=>
zo d16 mg λFx=>
some ((.bJ [s3.2.2.2.1,rq]),Fx))) λj17=>
zP fc.2.2.2.2.2.1 (
jo .sub fc.1 (iI 1) λoo=>
QJ fc.2.1 oo 65 1 λrU=>
jU dq rU (.int .u8 (.ofNat 45)) 1 λui=>
j17 (oo,fc.2.1,fc.2.2.1,fc.2.2.2.1,fc.2.2.2.2.1,fc.2.2.2.2.2.2.1,()) ui d12) (
j17 (fc.1,fc.2.1,fc.2.2.1,fc.2.2.2.1,fc.2.2.2.2.1,fc.2.2.2.2.2.2.1,()) dq d12)) λj13=>
zA c (.fn 312 [] []) [s6.2.2.2.2.2.2.1] h7 λv28 ru=>
zP v28 (
vH .u64 s6.2.2.2.2.2.2.1 λv30=>
zA c (.fn 313 [] []) [v30] ru λv31 ug=>
vH .u64 v31 λrV=>
vH .u64 s6.2.2.2.2.2.2.1 λFs=>
vH .u64 s6.2.2.2.2.2.2.1 λAa=>
jo .sub Aa (uU 1) λAd=>
YI (σ :=AV×AV×AV×AV×AV×AV×AV×AV×AV×AV×AV×Unit) NN (λi40 ff Lp d39=>
jo .geq ff.2.2.2.2.2.2.2.2.2.1 ff.2.1 λAb=>
zP Ab (
jo .sub ff.2.2.2.1 (iI 1) λAf=>
jo .and ff.2.2.2.2.2.2.2.2.2.1 ff.1 λuh=>
gA (.str [48,49,50,51,52,53,54,55,56,57,97,98,99,100,101,102,103,104,105,106,107,108,109,110,111,112,113,114,115,116,117,118,119,120,121,122]) uh λBU=>
QJ ff.2.2.2.2.1 Af 65 1 λBW=>
jU Lp BW BU 1 λLq=>
wL .shr ff.2.2.2.2.2.2.2.2.2.1 ff.2.2.1 λv47=>
i40 (ff.1,ff.2.1,ff.2.2.1,Af,ff.2.2.2.2.1,ff.2.2.2.2.2.1,ff.2.2.2.2.2.2.1,ff.2.2.2.2.2.2.2.1,ff.2.2.2.2.2.2.2.2.1,v47,ff.2.2.2.2.2.2.2.2.2.2.1,()) Lq d39) (
jo .sub ff.2.2.2.1 (iI 1) λDB=>
gA (.str [48,49,50,51,52,53,54,55,56,57,97,98,99,100,101,102,103,104,105,106,107,108,109,110,111,112,113,114,115,116,117,118,119,120,121,122]) ff.2.2.2.2.2.2.2.2.2.1 λv49=>
QJ ff.2.2.2.2.1 DB 65 1 λv50=>
jU Lp v50 v49 1 λh51=>
j13 (DB,ff.2.2.2.2.1,ff.2.2.2.2.2.1,ff.2.2.2.2.2.2.1,ff.2.2.2.2.2.2.2.1,ff.2.2.2.2.2.2.2.2.1,ff.2.2.2.2.2.2.2.2.2.2.1,()) h51 d39)) (Ad,Fs,rV,s6.1,s6.2.1,s6.2.2.1,s6.2.2.2.1,s6.2.2.2.2.1,s6.2.2.2.2.2.1,s6.2.2.2.2.2.2.2.1,s6.2.2.2.2.2.2.2.2.1,()) ug d8) (
vH .u64 s6.2.2.2.2.2.2.1 λFv=>
YI (σ :=rX) NN (λi56 fJ DC d55=>
jo .geq fJ.2.2.2.2.2.2.2.1 fJ.1 λFw=>
zP Fw (
jo .sub fJ.2.1 (iI 1) λDD=>
jo .quo fJ.2.2.2.2.2.2.2.1 fJ.1 λv59=>
jo .mul v59 fJ.1 λv60=>
jo .sub fJ.2.2.2.2.2.2.2.1 v60 λv61=>
gA (.str [48,49,50,51,52,53,54,55,56,57,97,98,99,100,101,102,103,104,105,106,107,108,109,110,111,112,113,114,115,116,117,118,119,120,121,122]) v61 λv62=>
QJ fJ.2.2.1 DD 65 1 λv63=>
jU DC v63 v62 1 λh64=>
i56 (fJ.1,DD,fJ.2.2.1,fJ.2.2.2.1,fJ.2.2.2.2.1,fJ.2.2.2.2.2.1,fJ.2.2.2.2.2.2.1,v59,fJ.2.2.2.2.2.2.2.2.1,()) h64 d55) (
jo .sub fJ.2.1 (iI 1) λLr=>
gA (.str [48,49,50,51,52,53,54,55,56,57,97,98,99,100,101,102,103,104,105,106,107,108,109,110,111,112,113,114,115,116,117,118,119,120,121,122]) fJ.2.2.2.2.2.2.2.1 λv66=>
QJ fJ.2.2.1 Lr 65 1 λv67=>
jU DC v67 v66 1 λh68=>
j13 (Lr,fJ.2.2.1,fJ.2.2.2.1,fJ.2.2.2.2.1,fJ.2.2.2.2.2.1,fJ.2.2.2.2.2.2.1,fJ.2.2.2.2.2.2.2.2.1,()) h68 d55)) (Fv,s6.1,s6.2.1,s6.2.2.1,s6.2.2.2.1,s6.2.2.2.2.1,s6.2.2.2.2.2.1,s6.2.2.2.2.2.2.2.1,s6.2.2.2.2.2.2.2.2.1,()) ru d8)) λj9=>
zP s0.2.2.2.1 (
ow .neg s0.2.2.2.2.2.1 λv69=>
j9 ((iI 65),v4,s0.1,s0.2.1,s0.2.2.1,s0.2.2.2.1,s0.2.2.2.2.1,v69,s0.2.2.2.2.2.2.1,()) h5 d2) (
j9 ((iI 65),v4,s0.1,s0.2.1,s0.2.2.1,s0.2.2.2.1,s0.2.2.2.2.1,s0.2.2.2.2.2.1,s0.2.2.2.2.2.2.1,()) h5 d2)) λj3=>
jo .lss a2 (iI 2) λv70=>
yH (α :=rX→AH→R) (λlW Lt=>
kV lW.2.1 (.bool true) lW.1 λFy=>
yH (α :=rX→AH→R) (λrY h76=>
kV rY.2.1 (.bool true) rY.1 λv78=>
zP v78 (
none/-op-/) (
j3 (rY.2.2.1,rY.2.2.2.1,rY.2.2.2.2.1,rY.2.2.2.2.2.1,rY.2.2.2.2.2.2.1,rY.2.2.2.2.2.2.2.1,rY.2.2.2.2.2.2.2.2.1,()) h76 [])) λLu=>
kL Fy false (
jo .gtr lW.2.2.2.2.2.2.1 (iI 36) λv79=>
Lu (v79,Fy,lW.2.2.1,lW.2.2.2.1,lW.2.2.2.2.1,lW.2.2.2.2.2.1,lW.2.2.2.2.2.2.1,lW.2.2.2.2.2.2.2.1,lW.2.2.2.2.2.2.2.2.1,()) Lt) (
Lu (.undef,Fy,lW.2.2.1,lW.2.2.2.1,lW.2.2.2.2.1,lW.2.2.2.2.2.1,lW.2.2.2.2.2.2.1,lW.2.2.2.2.2.2.2.1,lW.2.2.2.2.2.2.2.2.1,()) Lt)) λLv=>
kL v70 false (
jo .eql a2 (iI 10) λv80=>
Lv (v80,v70,(.str []),.ak,a4,a3,a2,a1,a0,()) h) (
Lv (.undef,v70,(.str []),.ak,a4,a3,a2,a1,a0,()) h)
def W252 : WF :=Ef S252
theorem W252_ok : fk Tryz.prog 252 W252 :=qvn (pl :=P252) λ_ _ _ _ _ _ _=>by kernel_rfl
def P255 : Pl :=(.n none .z (.n none (.n none (.r [[11,7,1,0]]) .z) .z))
def S255 : bC Tryz.prog P255 255 :=λ_ _ _ _=>.mk _
def P256 : Pl :=.z
def S256 (_ : CV) (h : AH) : R :=
yC h 9 [(.str [])] 24 [(0,1,(.str [])),(1,1,(.str [115,101,116])),(2,1,(.str [109,111,118,101])),(3,1,(.str [97,100,100])),(4,1,(.str [115,117,98])),(5,1,(.str [109,117,108])),(6,1,(.str [108,101,115,115])),(7,1,(.str [101,113,117,97,108])),(8,1,(.str [108,111,97,100])),(9,1,(.str [115,116,111,114,101])),(10,1,(.str [97,108,108,111,99])),(11,1,(.str [102,114,101,101])),(12,1,(.str [106,117,109,112])),(13,1,(.str [122,101,114,111])),(14,1,(.str [111,112,101,110])),(15,1,(.str [99,108,111,115,101])),(16,1,(.str [117,110,100,111])),(17,1,(.str [101,105,116,104,101,114])),(18,1,(.str [111,114])),(19,1,(.str [100,111,110,101])),(20,1,(.str [114,101,116,114,121])),(21,1,(.str [101,109,105,116])),(22,1,(.str [102,97,105,108])),(23,1,(.str [99,97,108,108]))] λv0 h1=>
some (v0,h1)
def W256 : WF :=Ec S256
theorem W256_ok : fk Tryz.prog 256 W256 :=qgI (pl :=P256) λ_ _=>by kernel_rfl
def P257 : Pl :=(.n none .z (.n none .z (.n none .z (.n none (.r [[]]) .z))))
def S257 : iw Tryz.prog P257 257 :=λ_ _ _ _ _ _=>.mk _
def P258 : Pl :=.z
def S258 : bC Tryz.prog P258 258 :=λ_ _ _ _=>.mk _
def P259 : Pl :=(.n none .z (.n none (.n none (.r [[17,15,2,0]]) .z) (.n none .z (.n none .z (.n none .z (.n none .z (.n none .z (.n none (.n none .z (.n none (.n (some [67,66,65,0]) .z .z) .z)) .z))))))))
def S259 : cQ Tryz.prog P259 259 :=λ_ _ _ _ _=>.mk _
def P260 : Pl :=(.n none .z (.n none (.n none (.r [[22,18,6,5,3,2,0]]) .z) .z))
def S260 : iw Tryz.prog P260 260 :=λ_ _ _ _ _ _=>.mk _
def P261 : Pl :=(.n none .z (.n none .z (.n none (.n (some [7,6]) (.n (some [7,6,2,0]) (.n none .z (.n none (.n none .z (.n none (.n none (.r [[22,16,7,6,2,0]]) .z) .z)) .z)) .z) .z) .z)))
def S261 : cQ Tryz.prog P261 261 :=λ_ _ _ _ _=>.mk _
def P262 : Pl :=.z
def S262 : aQ Tryz.prog P262 262 :=λ_ _ _=>.mk _
def P263 : Pl :=(.n none .z (.n none (.r [[11,9,2,1,0],[19,13]]) .z))
def S263 : cQ Tryz.prog P263 263 :=λ_ _ _ _ _=>.mk _
def P264 : Pl :=.z
def S264 : bC Tryz.prog P264 264 :=λ_ _ _ _=>.mk _
def P265 : Pl :=.z
def S265 : cQ Tryz.prog P265 265 :=λ_ _ _ _ _=>.mk _
def P266 : Pl :=.z
def S266 : cQ Tryz.prog P266 266 :=λ_ _ _ _ _=>.mk _
def P267 : Pl :=.z
def S267 : iw Tryz.prog P267 267 :=λ_ _ _ _ _ _=>.mk _
def P268 : Pl :=.z
def S268 : bC Tryz.prog P268 268 :=λ_ _ _ _=>.mk _
def P269 : Pl :=.z
def S269 : bC Tryz.prog P269 269 :=λ_ _ _ _=>.mk _
def P270 : Pl :=.z
def S270 : iw Tryz.prog P270 270 :=λ_ _ _ _ _ _=>.mk _
def P271 : Pl :=(.n none .z (.n (some [6,4,3,2,0]) (.n none (.r [[20,15,6,4,3,2,1,0]]) .z) (.n none .z (.n none .z (.n none .z (.n (some [7,6,4,3,2,0]) (.n none (.r [[53,43,7,6,4,3,2,0],[60,55,7,6,4,3,2,0]]) .z) .z))))))
def S271 : oy Tryz.prog P271 271 :=λ_ _ _ _ _ _ _=>.mk _
def P272 : Pl :=(.n none .z (.n none .z (.n none .z (.n none .z (.n none .z (.n (some [6,5,0]) (.n none (.r [[40,38,6,5,0],[47,42,6,5,0]]) .z) .z))))))
def S272 : bC Tryz.prog P272 272 :=λ_ _ _ _=>.mk _
def P273 : Pl :=(.n none .z (.n none .z (.n none (.n none .z (.n none (.n (some [14,5,1,0]) .z .z) .z)) .z)))
def S273 : bC Tryz.prog P273 273 :=λ_ _ _ _=>.mk _
def P274 : Pl :=(.n none .z (.n none (.r [[4,1,0]]) (.n none (.n none (.n (some [4,1,0]) (.n none .z (.n none (.n none .z (.n none (.n none (.r [[39,30,5,4,1,0]]) .z) .z)) .z)) .z) .z) .z)))
def S274 : bC Tryz.prog P274 274 :=λ_ _ _ _=>.mk _
def P275 : Pl :=(.n none .z (.n none .z (.n none .z (.n none .z (.n none .z (.n none (.n none .z (.n none (.n (some [25,24,23,4,2,1]) .z .z) .z)) (.n none .z (.n none (.r [[4,2,1]]) .z))))))))
def S275 : aQ Tryz.prog P275 275 :=λ_ _ _=>.mk _
def P276 : Pl :=(.n none .z (.n none .z (.n none (.n none (.r [[20,13,4,3,1,0],[25,22,4,3,0],[31,25,22,4,3,0],[32,22,4,3,0]]) .z) .z)))
def S276 : oy Tryz.prog P276 276 :=λ_ _ _ _ _ _ _=>.mk _
def P277 : Pl :=.z
def S277 : aQ Tryz.prog P277 277 :=λ_ _ _=>.mk _
def P278 : Pl :=(.n none .z (.n none (.n none (.r [[20,15,6,4,3,2,0]]) .z) .z))
def S278 : oy Tryz.prog P278 278 :=λ_ _ _ _ _ _ _=>.mk _
def P279 : Pl :=(.n none .z (.n none (.n none (.r [[19,14,5,3,2,0]]) .z) .z))
def S279 : iw Tryz.prog P279 279 :=λ_ _ _ _ _ _=>.mk _
def P280 : Pl :=.z
def S280 : cQ Tryz.prog P280 280 :=λ_ _ _ _ _=>.mk _
def P281 : Pl :=.z
def S281 : bC Tryz.prog P281 281 :=λ_ _ _ _=>.mk _
def P282 : Pl :=.z
def S282 : oy Tryz.prog P282 282 :=λ_ _ _ _ _ _ _=>.mk _
def P283 : Pl :=(.n none .z (.n none .z (.n none (.n none .z (.n none (.n (some [5,1,0]) (.n none (.n none (.r [[20,15,5,1,0]]) .z) (.n none (.n none .z (.n none .z (.n none .z (.n (some [7,5,1,0]) .z .z)))) .z)) .z) .z)) .z)))
def S283 : bC Tryz.prog P283 283 :=λ_ _ _ _=>.mk _
def P284 : Pl :=.z
def S284 : cQ Tryz.prog P284 284 :=λ_ _ _ _ _=>.mk _
def P285 : Pl :=(.n none (.n none (.n (some [0]) (.n none (.n none (.r [[17,12,0]]) .z) (.n none (.n none .z (.n none (.r [[4,3,2,0]]) .z)) .z)) .z) .z) (.n none (.r [[92,87,0]]) .z))
def S285 : aQ Tryz.prog P285 285 :=λ_ _ _=>.mk _
def P286 : Pl :=.z
def S286 : oy Tryz.prog P286 286 :=λ_ _ _ _ _ _ _=>.mk _
def P287 : Pl :=(.n none .z (.n none .z (.n none (.r [[18,16,6,5,3]]) .z)))
def S287 : iw Tryz.prog P287 287 :=λ_ _ _ _ _ _=>.mk _
def P288 : Pl :=(.n (some [1,0]) (.n none (.r [[15,11,1,0]]) (.n none (.n none .z (.n none (.r [[4,1,0]]) (.n none (.r [[4,0]]) .z))) .z)) (.n none .z (.n (some [5,1,0]) .z (.n none .z (.n none .z (.n none (.n (some [1,0]) .z .z) .z))))))
def S288 : bC Tryz.prog P288 288 :=λ_ _ _ _=>.mk _
def P289 : Pl :=(.n none .z (.r [[]]))
def S289 : oy Tryz.prog P289 289 :=λ_ _ _ _ _ _ _=>.mk _
def P290 : Pl :=(.n none .z (.n none (.n none (.r [[20,14,4,3,2,1,0]]) .z) (.n none .z (.n (some [11,4,3,2,1,0]) .z (.n (some [11,4,3,2,1,0]) (.n none (.r [[47,44,11,4,3,2,1,0]]) .z) (.n (some [4]) .z .z))))))
def S290 : oy Tryz.prog P290 290 :=λ_ _ _ _ _ _ _=>.mk _
def P291 : Pl :=.z
def S291 : aQ Tryz.prog P291 291 :=λ_ _ _=>.mk _
def P292 : Pl :=(.n none .z (.n none .z (.n none (.n none .z (.n none (.n (some [3,0]) .z .z) .z)) .z)))
def S292 : aQ Tryz.prog P292 292 :=λ_ _ _=>.mk _
def P293 : Pl :=(.n none .z (.n none .z (.n none .z (.n none .z (.n (some [10,8]) .z .z)))))
def S293 : cQ Tryz.prog P293 293 :=λ_ _ _ _ _=>.mk _
def P294 : Pl :=(.n none .z (.n none .z (.n none .z (.n none (.n none (.r [[22,20,6,1,0],[33,24,6,1,0]]) .z) .z))))
def S294 : bC Tryz.prog P294 294 :=λ_ _ _ _=>.mk _
def P295 : Pl :=.z
def S295 : bC Tryz.prog P295 295 :=λ_ _ _ _=>.mk _
def P296 : Pl :=.z
def S296 : aQ Tryz.prog P296 296 :=λ_ _ _=>.mk _
def P297 : Pl :=.z
def S297 : aQ Tryz.prog P297 297 :=λ_ _ _=>.mk _
def P298 : Pl :=(.n none .z (.n none .z (.n none .z (.n none .z (.n none .z (.n none (.r [[2]]) .z))))))
def S298 : aQ Tryz.prog P298 298 :=λ_ _ _=>.mk _
def P299 : Pl :=.z
def S299 : bC Tryz.prog P299 299 :=λ_ _ _ _=>.mk _
def P300 : Pl :=.z
def S300 : aQ Tryz.prog P300 300 :=λ_ _ _=>.mk _
def P301 : Pl :=(.n none .z (.n none .z (.n none (.n none .z (.n none (.n (some [15,14,13,3]) .z .z) .z)) .z)))
def S301 : aQ Tryz.prog P301 301 :=λ_ _ _=>.mk _
def P302 : Pl :=(.n none .z (.n none (.n none .z (.n none (.n (some [8,7,1,0]) .z .z) .z)) .z))
def S302 : bC Tryz.prog P302 302 :=λ_ _ _ _=>.mk _
def P303 : Pl :=.z
def S303 : bC Tryz.prog P303 303 :=λ_ _ _ _=>.mk _
def P306 : Pl :=.z
def S306 : aQ Tryz.prog P306 306 :=λ_ _ _=>.mk _
def P312 : Pl :=.z
def S312 : aQ Tryz.prog P312 312 :=λ_ _ _=>.mk _
def P313 : Pl :=.z
def S313 : aQ Tryz.prog P313 313 :=λ_ _ _=>.mk _
def P314 : Pl :=(.n none .z (.n none .z (.n none (.n none .z (.n none (.n (some [14,13,12,3,0]) .z .z) .z)) (.n none (.n none .z (.n none (.n (some [28,27,26,3]) .z .z) .z)) .z))))
def S314 : aQ Tryz.prog P314 314 :=λ_ _ _=>.mk _
def P315 : Pl :=(.n none .z (.n none .z (.n (some [0]) .z .z)))
def S315 : aQ Tryz.prog P315 315 :=λ_ _ _=>.mk _
def P316 : Pl :=.z
def S316 : bC Tryz.prog P316 316 :=λ_ _ _ _=>.mk _
def P317 : Pl :=.z
def S317 : bC Tryz.prog P317 317 :=λ_ _ _ _=>.mk _
def P318 : Pl :=.z
def S318 : bC Tryz.prog P318 318 :=λ_ _ _ _=>.mk _
def P319 : Pl :=(.n none .z (.n none (.n (some [11,10,1,0]) (.n none .z (.n none .z (.n none (.n none (.n none .z (.n none .z (.n none (.n (some [11,10,5,1,0]) (.n none (.n none (.r [[32,27,11,10,5,1,0]]) .z) .z) .z) .z))) .z) .z))) .z) .z))
def S319 : bC Tryz.prog P319 319 :=λ_ _ _ _=>.mk _
def P320 : Pl :=(.n none (.r [[5,3,1,0]]) .z)
def S320 : iw Tryz.prog P320 320 :=λ_ _ _ _ _ _=>.mk _
def P321 : Pl :=(.n none .z (.n (some [5,4,2,0]) .z (.n none .z (.n none .z (.n none .z (.n (some [6,4,0]) .z .z))))))
def S321 : cQ Tryz.prog P321 321 :=λ_ _ _ _ _=>.mk _
def P322 : Pl :=.z
def S322 : iw Tryz.prog P322 322 :=λ_ _ _ _ _ _=>.mk _
def P323 : Pl :=(.n none .z (.n none .z (.n none .z (.n none (.r [[6]]) .z))))
def S323 : cQ Tryz.prog P323 323 :=λ_ _ _ _ _=>.mk _
def P324 : Pl :=(.n none .z (.r [[]]))
def S324 : iw Tryz.prog P324 324 :=λ_ _ _ _ _ _=>.mk _
def P325 : Pl :=(.n none .z (.n none (.r [[16,7]]) .z))
def S325 : bC Tryz.prog P325 325 :=λ_ _ _ _=>.mk _
def P326 : Pl :=(.n none .z (.n (some [5,0]) (.n none .z (.n none (.r [[5,0]]) .z)) .z))
def S326 : cQ Tryz.prog P326 326 :=λ_ _ _ _ _=>.mk _
def P327 : Pl :=.z
def S327 : cQ Tryz.prog P327 327 :=λ_ _ _ _ _=>.mk _
def P328 : Pl :=(.n none .z (.n none .z (.n none .z (.n none (.n (some [1]) (.n (some [1,0]) .z .z) .z) .z))))
def S328 : bC Tryz.prog P328 328 :=λ_ _ _ _=>.mk _
def P329 : Pl :=(.n none (.n (some [0]) (.n none (.n none (.r [[16,11,0]]) .z) (.n (some [0]) (.n none .z (.n none .z (.n none .z (.n none .z (.n none (.n none (.r [[90,85,4,3,2,0]]) .z) .z))))) .z)) .z) .z)
def S329 : aQ Tryz.prog P329 329 :=λ_ _ _=>.mk _
def P330 : Pl :=(.n none .z (.n none (.n none (.r [[7,5,0]]) .z) .z))
def S330 : aQ Tryz.prog P330 330 :=λ_ _ _=>.mk _
def P331 : Pl :=.z
def S331 : bC Tryz.prog P331 331 :=λ_ _ _ _=>.mk _
def P332 : Pl :=(.n none .z (.n none .z (.n none (.r [[]]) .z)))
def S332 : aQ Tryz.prog P332 332 :=λ_ _ _=>.mk _
def P333 : Pl :=.z
def S333 : aQ Tryz.prog P333 333 :=λ_ _ _=>.mk _
def P335 : Pl :=.z
def S335 : aQ Tryz.prog P335 335 :=λ_ _ _=>.mk _
def P336 : Pl :=.z
def S336 : aQ Tryz.prog P336 336 :=λ_ _ _=>.mk _
def P337 : Pl :=.z
def S337 : bC Tryz.prog P337 337 :=λ_ _ _ _=>.mk _
def P338 : Pl :=.z
def S338 : cQ Tryz.prog P338 338 :=λ_ _ _ _ _=>.mk _
def P339 : Pl :=(.n none .z (.n (some [4,2,0]) .z .z))
def S339 : cQ Tryz.prog P339 339 :=λ_ _ _ _ _=>.mk _
def P362 : Pl :=.z
def S362 : aQ Tryz.prog P362 362 :=λ_ _ _=>.mk _
def P363 : Pl :=.z
def S363 : aQ Tryz.prog P363 363 :=λ_ _ _=>.mk _
def P364 : Pl :=(.n none .z (.n (some []) (.n none .z (.n none .z (.n none .z (.n none .z (.n none (.r [[41,34,3,0]]) .z))))) .z))
def S364 (c : CV) (a0 a1 : AV) (h : AH) : R :=
gF h 72 a1 λv0 h1=>
yH (α :=Unit→AH→List Nat→R) (λ_ h3 d4=>
zo d4 h3 λh6=>
some ((.bJ []),h6)) λj5=>
xM a0 λv7=>
qn v7 0 λv8=>
zc h1 v0 6 λv9=>
zA c (.fn 366 [] []) [v8,v9] h1 λv10 dq=>
zP v10 (
j5 (()) dq []) (
xM a0 λv12=>
qn v12 8 λpz=>
jB dq pz λrW=>
jo .eql rW (iI 1) λrS=>
zP rS (
qn v0 0 λpA=>
jB dq pA λnR=>
xM a0 λnf=>
qn nf 12 λrT=>
jU dq rT nR 1 λpB=>
xM a0 λv21=>
qn v21 8 λv22=>
jU pB v22 (iI 2) 1 λAc=>
j5 (()) Ac []) (
xM a0 λv24=>
qn v24 8 λoo=>
jB dq oo λrU=>
jo .eql rU (iI 2) λuf=>
yH (α :=AV×AV×AV×AV×Unit→AH→R) (λBY ru=>
kV BY.2.1 BY.1 (.bool false) λv31=>
zP v31 (
xM BY.2.2.2.1 λBV=>
qn BV 0 λrV=>
zA c (.fn 367 [] []) [rV,(iI 2),(iI 0),(.int .i64 (.negSucc 0))] ru λ_ Fz=>
j5 (()) Fz []) (
qn BY.2.2.1 1 λAd=>
zc ru Ad 3 λv37=>
zA c (.fn 368 [] []) [BY.2.2.2.1,v37] ru λ_ h39=>
j5 (()) h39 [])) λj30=>
kL uf true (
qn v0 1 λv40=>
zc dq v40 3 λAb=>
xM a0 λAf=>
qn Af 9 λuh=>
zc dq uh 3 λBU=>
GG [.lA .int 0,.lA .bool 1,.lA .int 2] false Ab BU λBW=>
j30 (BW,uf,v0,a0,()) dq) (
j30 (.undef,uf,v0,a0,()) dq)))
def W364 : WF :=AE S364
theorem W364_ok : fk Tryz.prog 364 W364 :=Ed (pl :=P364) λ_ _ _ _=>by kernel_rfl
def P365 : Pl :=.z
def S365 : aQ Tryz.prog P365 365 :=λ_ _ _=>.mk _
def P366 : Pl :=(.n none .z (.n (some [0]) (.n none (.r [[13,10,3,0]]) .z) .z))
def S366 : bC Tryz.prog P366 366 :=λ_ _ _ _=>.mk _
def P367 : Pl :=.z
def S367 : iw Tryz.prog P367 367 :=λ_ _ _ _ _ _=>.mk _
def P368 : Pl :=(.n none .z (.n none .z (.n (some []) .z .z)))
def S368 : bC Tryz.prog P368 368 :=λ_ _ _ _=>.mk _
def P369 : Pl :=.z
def S369 : bC Tryz.prog P369 369 :=λ_ _ _ _=>.mk _
def P370 : Pl :=.z
def S370 : aQ Tryz.prog P370 370 :=λ_ _ _=>.mk _
def P371 : Pl :=.z
def S371 : aQ Tryz.prog P371 371 :=λ_ _ _=>.mk _
def P372 : Pl :=(.n none .z (.n none (.n (some [0]) (.n none .z (.n none .z (.n none .z (.n none (.r [[0]]) (.n none .z (.n none (.n (some []) .z .z) .z)))))) .z) .z))
def S372 : bC Tryz.prog P372 372 :=λ_ _ _ _=>.mk _
def P373 : Pl :=.z
def S373 : aQ Tryz.prog P373 373 :=λ_ _ _=>.mk _
def P374 : Pl :=.z
def S374 : aQ Tryz.prog P374 374 :=λ_ _ _=>.mk _
def P375 : Pl :=(.n none .z (.n none .z (.n none .z (.n (some []) (.n (some [13,12,3,0]) .z (.n none .z (.n (some [19,12,3,0]) .z .z))) .z))))
def S375 : bC Tryz.prog P375 375 :=λ_ _ _ _=>.mk _
def P376 : Pl :=.z
def S376 : aQ Tryz.prog P376 376 :=λ_ _ _=>.mk _
def P377 : Pl :=(.n none .z (.n (some []) (.n none (.r [[16,13,3,0]]) .z) .z))
def S377 : bC Tryz.prog P377 377 :=λ_ _ _ _=>.mk _
def P378 : Pl :=(.n none .z (.n (some []) (.n none (.r [[15,12,3,0]]) .z) .z))
def S378 : bC Tryz.prog P378 378 :=λ_ _ _ _=>.mk _
def P379 : Pl :=(.n none .z (.n (some []) .z .z))
def S379 : bC Tryz.prog P379 379 :=λ_ _ _ _=>.mk _
def P380 : Pl :=.z
def S380 : aQ Tryz.prog P380 380 :=λ_ _ _=>.mk _
def P381 : Pl :=.z
def S381 : aQ Tryz.prog P381 381 :=λ_ _ _=>.mk _
def P382 : Pl :=.z
def S382 : aQ Tryz.prog P382 382 :=λ_ _ _=>.mk _
def P383 : Pl :=.z
def S383 : bC Tryz.prog P383 383 :=λ_ _ _ _=>.mk _
def P384 : Pl :=.z
def S384 : iw Tryz.prog P384 384 :=λ_ _ _ _ _ _=>.mk _
def P385 : Pl :=(.n none (.n none .z (.n none (.n (some [0]) .z .z) .z)) .z)
def S385 : aQ Tryz.prog P385 385 :=λ_ _ _=>.mk _
def Q0 : Pl :=(.n none .z .z)
def B0 (c : CV) (l : Nat) (v0 _ a1 : AV) (h : AH) : R :=
JF h l λpC=>
zA c (.fn 166 [] []) [(iI 96)] pC λpD BZ=>
xM a1 λuj=>
qn uj 0 λuk=>
jB BZ uk λv105=>
zA c (.fn 168 [] []) [v105] BZ λFA FB=>
zA c (.fn 167 [] []) [pD,FA] FB λ_ rZ=>
jB rZ v0 λFC=>
zA c (.fn 167 [] []) [pD,FC] rZ λ_ FD=>
zA c (.fn 168 [] []) [pD] FD λFE FF=>
jU FF v0 FE 1 λFG=>
xR FG l none
theorem B0_eq (c : CV) (l : Nat) (v0 a0 a1 : AV) (h : AH) : Um Tryz.prog NN Q0 c 139 [1,1,0,1,0] [3] l [v0] [a0,a1] h=B0 c l v0 a0 a1 h :=by kernel_rfl
def V0 (c : CV) (l : Nat) (x y : List AV) (h : AH) : R :=match x,y with |[v0],[a0,a1]=>B0 c l v0 a0 a1 h |_,_=>none
theorem V0_ok : AD Tryz.prog 139 [1,1,0,1,0] [3] V0 :=by
 intro c l x y h r e
 unfold V0 at e
 split at e
 ·exact⟨Q0,by rw[B0_eq];exact e⟩
 ·cases e
def Q1 : Pl :=(.n none .z .z)
def B1 (c : CV) (l : Nat) (v0 v1 v2 _ a1 : AV) (h : AH) : R :=
JF h l λpC=>
xM a1 λpD=>
qn pD 0 λFH=>
jB pC FH λuj=>
jB pC v2 λuk=>
zA c (.fn 234 [] []) [uj,uk] pC λv105 B3=>
xv v105 0 λv107=>
xv v105 1 λFI=>
zP FI (
jU B3 v1 v107 1 λrZ=>
jU rZ v0 (.bool true) 1 λFJ=>
xR FJ l (some .ret)) (
xR B3 l none)
theorem B1_eq (c : CV) (l : Nat) (v0 v1 v2 a0 a1 : AV) (h : AH) : Um Tryz.prog NN Q1 c 196 [1,0,1,0] [5,4,3] l [v0,v1,v2] [a0,a1] h=B1 c l v0 v1 v2 a0 a1 h :=by kernel_rfl
def V1 (c : CV) (l : Nat) (x y : List AV) (h : AH) : R :=match x,y with |[v0,v1,v2],[a0,a1]=>B1 c l v0 v1 v2 a0 a1 h |_,_=>none
theorem V1_ok : AD Tryz.prog 196 [1,0,1,0] [5,4,3] V1 :=by
 intro c l x y h r e
 unfold V1 at e
 split at e
 ·exact⟨Q1,by rw[B1_eq];exact e⟩
 ·cases e
end
end Go.Proofs.YthmopakmcboghaaGreatDoor
