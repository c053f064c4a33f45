/- Printed by a program of mine: the bodies of the program's functions aa terms of the primitives of the abstract executor, each shown equal by the kernel. -/
import Derived.Test.YtnalffoigcmnnaaGreatDoorProg
import Derived.Test.YtnalffoigcmnnaaGreatDoorAttemptAloneAe1
import Derived.KernelRfl
namespace Go.Proofs.YtnalffoigcmnnaaGreatDoor
open Go Go.Ae
abbrev u9_2 : Type :=AV×AV×AV×AV×AV×AV×AV×AV×AV×Unit
set_option maxRecDepth 100000
noncomputable section
attribute [local irreducible] zQ x9 yJ xv qh XD JK yB wb JB Jk vV jK je jj jv gY UV pEq J6 pUn yl JA G7 V2 vY zd vG xz wM jb y7 kH pMM y8 zx zW w7 xo zU XW Q4 kJ Gv Qn Gj OG Gy Y8 Y9 jw xm Qz QC QM z6 yO pIs Jv Ko zw zN QR AV.undef
set_option maxHeartbeats 40000000
def P207 : Pl :=(.n none .z (.n none .z (.n none .z (.n none .z (.n none .z (.n none (.n none .z (.n none (.n (some [25,24,23,4,2,1]) .z .z) .z)) (.n none .z (.n none (.r [[4,2,1]]) .z))))))))
def S207 : tE1 Tryz.prog P207 207 :=λ_ _ _=>.mk _
def P208 : Pl :=(.n none .z (.n none .z (.n none (.n none (.r [[20,13,4,3,1,0],[25,22,4,3,0],[31,25,22,4,3,0],[32,22,4,3,0]]) .z) .z)))
def S208 : tE5 Tryz.prog P208 208 :=λ_ _ _ _ _ _ _=>.mk _
def P209 : Pl :=.z
def S209 : tE1 Tryz.prog P209 209 :=λ_ _ _=>.mk _
def P210 : Pl :=(.n none .z (.n none (.n none (.r [[20,15,6,4,3,2,0]]) .z) .z))
def S210 : tE5 Tryz.prog P210 210 :=λ_ _ _ _ _ _ _=>.mk _
def P211 : Pl :=(.n none .z (.n none (.n none (.r [[19,14,5,3,2,0]]) .z) .z))
def S211 : tE4 Tryz.prog P211 211 :=λ_ _ _ _ _ _=>.mk _
def P212 : Pl :=.z
def S212 : tE3 Tryz.prog P212 212 :=λ_ _ _ _ _=>.mk _
def P213 : Pl :=.z
def S213 : tE2 Tryz.prog P213 213 :=λ_ _ _ _=>.mk _
def P214 : Pl :=.z
def S214 : tE5 Tryz.prog P214 214 :=λ_ _ _ _ _ _ _=>.mk _
def P215 : Pl :=(.n none .z (.n none .z (.n none (.n none .z (.n none (.n (some [5,1,0]) (.n none (.n none (.r [[20,15,5,1,0]]) .z) (.n none (.n none .z (.n none .z (.n none .z (.n (some [7,5,1,0]) .z .z)))) .z)) .z) .z)) .z)))
def S215 : tE2 Tryz.prog P215 215 :=λ_ _ _ _=>.mk _
def P216 : Pl :=.z
def S216 : tE3 Tryz.prog P216 216 :=λ_ _ _ _ _=>.mk _
def P217 : Pl :=(.n none (.n none (.n (some [0]) (.n none (.n none (.r [[17,12,0]]) .z) (.n none (.n none .z (.n none (.r [[4,3,2,0]]) .z)) .z)) .z) .z) (.n none (.r [[92,87,0]]) .z))
def S217 : tE1 Tryz.prog P217 217 :=λ_ _ _=>.mk _
def P218 : Pl :=.z
def S218 : tE5 Tryz.prog P218 218 :=λ_ _ _ _ _ _ _=>.mk _
def P219 : Pl :=(.n none .z (.n none .z (.n none (.r [[18,16,6,5,3]]) .z)))
def S219 : tE4 Tryz.prog P219 219 :=λ_ _ _ _ _ _=>.mk _
def P220 : Pl :=(.n (some [1,0]) (.n none (.r [[15,11,1,0]]) (.n none (.n none .z (.n none (.r [[4,1,0]]) (.n none (.r [[4,0]]) .z))) .z)) (.n none .z (.n (some [5,1,0]) .z (.n none .z (.n none .z (.n none (.n (some [1,0]) .z .z) .z))))))
def S220 : tE2 Tryz.prog P220 220 :=λ_ _ _ _=>.mk _
def P221 : Pl :=(.n none .z (.r [[]]))
def S221 : tE5 Tryz.prog P221 221 :=λ_ _ _ _ _ _ _=>.mk _
def P222 : Pl :=(.n none .z (.n none (.n none (.r [[20,14,4,3,2,1,0]]) .z) (.n none .z (.n (some [11,4,3,2,1,0]) .z (.n (some [11,4,3,2,1,0]) (.n none (.r [[47,44,11,4,3,2,1,0]]) .z) (.n (some [4]) .z .z))))))
def S222 : tE5 Tryz.prog P222 222 :=λ_ _ _ _ _ _ _=>.mk _
def P223 : Pl :=.z
def S223 : tE1 Tryz.prog P223 223 :=λ_ _ _=>.mk _
def P224 : Pl :=(.n none .z (.n none (.n none .z (.n none (.n (some [5,4,3]) .z .z) .z)) .z))
def S224 (c : CV) (a0 a1 : AV) (h : AH) : R :=
y8 h 3 a1 λv0 h1=>
y8 h1 24 (uU 0) λv2 h3=>
y8 h3 4 (.bool false) λv4 h5=>
xv a0 λv6=>
qh v6 1 λv7=>
jK h5 v7 λv8=>
jw c (.fn 121 [] []) [v8] h5 λv9 h10=>
Qz c v9 [.yield (h10.new .dfd).nx] ((h10.new .dfd).new (.loop .ready none 224 [1,0,1,0] [5,4,3] [v4,v2,v0] h10.nx)) λ_ h11=>
yO h11 (h10.new .dfd).nx λp13 h12=>
Jv p13 (
jj h12 v2 (uU 0) 1 λh14=>
jj h14 v4 (.bool false) 1 λh15=>
zw (h10.nx::[]) h15 λh16=>
jK h16 v2 λv17=>
jK h16 v4 λv18=>
some ((.tup [v17,v18]),h16))<|
pIs p13 .ret (
zw (h10.nx::[]) h12 λh19=>
jK h19 v2 λv20=>
jK h19 v4 λv21=>
some ((.tup [v20,v21]),h19))<|
none
def W224 : WF :=w_2 S224
theorem W224_ok : WOk Tryz.prog 224 W224 :=MY (pl :=P224) λ_ _ _ _=>by kernel_rfl
def P225 : Pl :=(.n none .z (.n none (.n none (.r [[14,12,2,1,0]]) .z) (.n none .z (.n none (.n none .z (.n none (.r [[32,29,7,2,1]]) .z)) .z))))
def S225 : tE3 Tryz.prog P225 225 :=λ_ _ _ _ _=>.mk _
def P226 : Pl :=(.n none .z (.n none .z (.n none (.n none .z (.n none (.n (some [3,0]) .z .z) .z)) .z)))
def S226 : tE1 Tryz.prog P226 226 :=λ_ _ _=>.mk _
def P227 : Pl :=(.n none .z (.n none .z (.n none .z (.n none .z (.n (some [10,8]) .z .z)))))
def S227 : tE3 Tryz.prog P227 227 :=λ_ _ _ _ _=>.mk _
def P228 : Pl :=(.n none .z (.n none .z (.n none .z (.n none (.n none (.r [[22,20,6,1,0],[33,24,6,1,0]]) .z) .z))))
def S228 : tE2 Tryz.prog P228 228 :=λ_ _ _ _=>.mk _
def P229 : Pl :=.z
def S229 : tE2 Tryz.prog P229 229 :=λ_ _ _ _=>.mk _
def P230 : Pl :=.z
def S230 : tE1 Tryz.prog P230 230 :=λ_ _ _=>.mk _
def P231 : Pl :=.z
def S231 : tE1 Tryz.prog P231 231 :=λ_ _ _=>.mk _
def P232 : Pl :=(.n none .z (.n none .z (.n none .z (.n none .z (.n none .z (.n none (.r [[2]]) .z))))))
def S232 : tE1 Tryz.prog P232 232 :=λ_ _ _=>.mk _
def P233 : Pl :=.z
def S233 : tE2 Tryz.prog P233 233 :=λ_ _ _ _=>.mk _
def P234 : Pl :=.z
def S234 : tE1 Tryz.prog P234 234 :=λ_ _ _=>.mk _
def P235 : Pl :=.z
def S235 (_ : CV) (a0 : AV) (h : AH) : R :=
jv .lss a0 (iI 10) λv0=>
zQ v0 (
jv .add a0 (iI 1) λv1=>
vY (.str [48,49,50,51,52,53,54,55,56,57,97,98,99,100,101,102,103,104,105,106,107,108,109,110,111,112,113,114,115,116,117,118,119,120,121,122]) (some a0) (some v1) λv2=>
some (v2,h)) (
jv .mul a0 (iI 2) λv3=>
jv .mul a0 (iI 2) λv4=>
jv .add v4 (iI 2) λv5=>
vY (.str [48,48,48,49,48,50,48,51,48,52,48,53,48,54,48,55,48,56,48,57,49,48,49,49,49,50,49,51,49,52,49,53,49,54,49,55,49,56,49,57,50,48,50,49,50,50,50,51,50,52,50,53,50,54,50,55,50,56,50,57,51,48,51,49,51,50,51,51,51,52,51,53,51,54,51,55,51,56,51,57,52,48,52,49,52,50,52,51,52,52,52,53,52,54,52,55,52,56,52,57,53,48,53,49,53,50,53,51,53,52,53,53,53,54,53,55,53,56,53,57,54,48,54,49,54,50,54,51,54,52,54,53,54,54,54,55,54,56,54,57,55,48,55,49,55,50,55,51,55,52,55,53,55,54,55,55,55,56,55,57,56,48,56,49,56,50,56,51,56,52,56,53,56,54,56,55,56,56,56,57,57,48,57,49,57,50,57,51,57,52,57,53,57,54,57,55,57,56,57,57]) (some v3) (some v5) λv6=>
some (v6,h))
def W235 : WF :=w_1 S235
theorem W235_ok : WOk Tryz.prog 235 W235 :=Yn (pl :=P235) λ_ _ _=>by kernel_rfl
def P238 : Pl :=(.n none .z (.n (some [11,10,4,3,2,1,0]) (.n none (.r [[23,21,11,10,4,3,2,1,0],[27,25,11,10,4,3,2,1,0]]) .z) (.n none .z (.n none .z (.n (some [13,12,11,10,4,3,2,1,0]) .z (.n (some [13,12,11,10,4,3,0]) (.n none .z (.n none (.n none .z (.n none .z (.n none .z (.n none (.n none (.n (some [16,15,14,13,12,11,10,4,3,1,0]) .z .z) .z) .z)))) (.n none .z (.n none (.n none (.n (some [17,13,12,11,10,4,3,1,0]) .z .z) .z) .z)))) (.n (some [13,12,11,10,4,0]) .z .z)))))))
def S238 (c : CV) (a0 a1 a2 a3 a4 : AV) (h : AH) : R :=
zN (α :=AV×AV×AV×AV×AV×AV×AV×Unit→AH→List Nat→R) (λs0 h1 d2=>
y8 h1 312 (.agg [(.int .u8 (.ofNat 0)),(.int .u8 (.ofNat 0)),(.int .u8 (.ofNat 0)),(.int .u8 (.ofNat 0)),(.int .u8 (.ofNat 0)),(.int .u8 (.ofNat 0)),(.int .u8 (.ofNat 0)),(.int .u8 (.ofNat 0)),(.int .u8 (.ofNat 0)),(.int .u8 (.ofNat 0)),(.int .u8 (.ofNat 0)),(.int .u8 (.ofNat 0)),(.int .u8 (.ofNat 0)),(.int .u8 (.ofNat 0)),(.int .u8 (.ofNat 0)),(.int .u8 (.ofNat 0)),(.int .u8 (.ofNat 0)),(.int .u8 (.ofNat 0)),(.int .u8 (.ofNat 0)),(.int .u8 (.ofNat 0)),(.int .u8 (.ofNat 0)),(.int .u8 (.ofNat 0)),(.int .u8 (.ofNat 0)),(.int .u8 (.ofNat 0)),(.int .u8 (.ofNat 0)),(.int .u8 (.ofNat 0)),(.int .u8 (.ofNat 0)),(.int .u8 (.ofNat 0)),(.int .u8 (.ofNat 0)),(.int .u8 (.ofNat 0)),(.int .u8 (.ofNat 0)),(.int .u8 (.ofNat 0)),(.int .u8 (.ofNat 0)),(.int .u8 (.ofNat 0)),(.int .u8 (.ofNat 0)),(.int .u8 (.ofNat 0)),(.int .u8 (.ofNat 0)),(.int .u8 (.ofNat 0)),(.int .u8 (.ofNat 0)),(.int .u8 (.ofNat 0)),(.int .u8 (.ofNat 0)),(.int .u8 (.ofNat 0)),(.int .u8 (.ofNat 0)),(.int .u8 (.ofNat 0)),(.int .u8 (.ofNat 0)),(.int .u8 (.ofNat 0)),(.int .u8 (.ofNat 0)),(.int .u8 (.ofNat 0)),(.int .u8 (.ofNat 0)),(.int .u8 (.ofNat 0)),(.int .u8 (.ofNat 0)),(.int .u8 (.ofNat 0)),(.int .u8 (.ofNat 0)),(.int .u8 (.ofNat 0)),(.int .u8 (.ofNat 0)),(.int .u8 (.ofNat 0)),(.int .u8 (.ofNat 0)),(.int .u8 (.ofNat 0)),(.int .u8 (.ofNat 0)),(.int .u8 (.ofNat 0)),(.int .u8 (.ofNat 0)),(.int .u8 (.ofNat 0)),(.int .u8 (.ofNat 0)),(.int .u8 (.ofNat 0)),(.int .u8 (.ofNat 0))]) λv4 h5=>
zN (α :=u9_2→AH→List Nat→R) (λs6 h7 d8=>
zN (α :=AV×AV×AV×AV×AV×AV×AV×Unit→AH→List Nat→R) (λs10 h11 d12=>
zN (α :=AV×AV×AV×AV×AV×AV×Unit→AH→List Nat→R) (λs14 h15 d16=>
zQ s14.2.2.2.2.1 (
vG 65 1 s14.2.1 (some s14.1) none λv18=>
zU h15 5 1 s14.2.2.2.2.2.1 v18 λv19 h20=>
zw d16 h20 λh21=>
some ((.tup [v19,s14.2.2.1]),h21)) (
vG 65 1 s14.2.1 (some s14.1) none λv22=>
G7 h15 v22 λv23=>
zw d16 h15 λh24=>
some ((.tup [s14.2.2.2.1,v23]),h24))) λj17=>
zQ s10.2.2.2.2.2.1 (
jv .sub s10.1 (iI 1) λv25=>
wb s10.2.1 v25 65 1 λv26=>
jj h11 v26 (.int .u8 (.ofNat 45)) 1 λh27=>
j17 (v25,s10.2.1,s10.2.2.1,s10.2.2.2.1,s10.2.2.2.2.1,s10.2.2.2.2.2.2.1,()) h27 d12) (
j17 (s10.1,s10.2.1,s10.2.2.1,s10.2.2.2.1,s10.2.2.2.2.1,s10.2.2.2.2.2.2.1,()) h11 d12)) λj13=>
jw c (.fn 274 [] []) [s6.2.2.2.2.2.2.1] h7 λv28 h29=>
zQ v28 (
yl .u64 s6.2.2.2.2.2.2.1 λv30=>
jw c (.fn 275 [] []) [v30] h29 λv31 h32=>
yl .u64 v31 λv33=>
yl .u64 s6.2.2.2.2.2.2.1 λv34=>
yl .u64 s6.2.2.2.2.2.2.1 λv35=>
jv .sub v35 (uU 1) λv36=>
QR (σ :=AV×AV×AV×AV×AV×AV×AV×AV×AV×AV×AV×Unit) NN (λi40 s37 h38 d39=>
jv .geq s37.2.2.2.2.2.2.2.2.2.1 s37.2.1 λv41=>
zQ v41 (
jv .sub s37.2.2.2.1 (iI 1) λv42=>
jv .and s37.2.2.2.2.2.2.2.2.2.1 s37.1 λv43=>
vV (.str [48,49,50,51,52,53,54,55,56,57,97,98,99,100,101,102,103,104,105,106,107,108,109,110,111,112,113,114,115,116,117,118,119,120,121,122]) v43 λv44=>
wb s37.2.2.2.2.1 v42 65 1 λv45=>
jj h38 v45 v44 1 λh46=>
gY .shr s37.2.2.2.2.2.2.2.2.2.1 s37.2.2.1 λv47=>
i40 (s37.1,s37.2.1,s37.2.2.1,v42,s37.2.2.2.2.1,s37.2.2.2.2.2.1,s37.2.2.2.2.2.2.1,s37.2.2.2.2.2.2.2.1,s37.2.2.2.2.2.2.2.2.1,v47,s37.2.2.2.2.2.2.2.2.2.2.1,()) h46 d39) (
jv .sub s37.2.2.2.1 (iI 1) λv48=>
vV (.str [48,49,50,51,52,53,54,55,56,57,97,98,99,100,101,102,103,104,105,106,107,108,109,110,111,112,113,114,115,116,117,118,119,120,121,122]) s37.2.2.2.2.2.2.2.2.2.1 λv49=>
wb s37.2.2.2.2.1 v48 65 1 λv50=>
jj h38 v50 v49 1 λh51=>
j13 (v48,s37.2.2.2.2.1,s37.2.2.2.2.2.1,s37.2.2.2.2.2.2.1,s37.2.2.2.2.2.2.2.1,s37.2.2.2.2.2.2.2.2.1,s37.2.2.2.2.2.2.2.2.2.2.1,()) h51 d39)) (v36,v34,v33,s6.1,s6.2.1,s6.2.2.1,s6.2.2.2.1,s6.2.2.2.2.1,s6.2.2.2.2.2.1,s6.2.2.2.2.2.2.2.1,s6.2.2.2.2.2.2.2.2.1,()) h32 d8) (
yl .u64 s6.2.2.2.2.2.2.1 λv52=>
QR (σ :=u9_2) NN (λi56 s53 h54 d55=>
jv .geq s53.2.2.2.2.2.2.2.1 s53.1 λv57=>
zQ v57 (
jv .sub s53.2.1 (iI 1) λv58=>
jv .quo s53.2.2.2.2.2.2.2.1 s53.1 λv59=>
jv .mul v59 s53.1 λv60=>
jv .sub s53.2.2.2.2.2.2.2.1 v60 λv61=>
vV (.str [48,49,50,51,52,53,54,55,56,57,97,98,99,100,101,102,103,104,105,106,107,108,109,110,111,112,113,114,115,116,117,118,119,120,121,122]) v61 λv62=>
wb s53.2.2.1 v58 65 1 λv63=>
jj h54 v63 v62 1 λh64=>
i56 (s53.1,v58,s53.2.2.1,s53.2.2.2.1,s53.2.2.2.2.1,s53.2.2.2.2.2.1,s53.2.2.2.2.2.2.1,v59,s53.2.2.2.2.2.2.2.2.1,()) h64 d55) (
jv .sub s53.2.1 (iI 1) λv65=>
vV (.str [48,49,50,51,52,53,54,55,56,57,97,98,99,100,101,102,103,104,105,106,107,108,109,110,111,112,113,114,115,116,117,118,119,120,121,122]) s53.2.2.2.2.2.2.2.1 λv66=>
wb s53.2.2.1 v65 65 1 λv67=>
jj h54 v67 v66 1 λh68=>
j13 (v65,s53.2.2.1,s53.2.2.2.1,s53.2.2.2.2.1,s53.2.2.2.2.2.1,s53.2.2.2.2.2.2.1,s53.2.2.2.2.2.2.2.2.1,()) h68 d55)) (v52,s6.1,s6.2.1,s6.2.2.1,s6.2.2.2.1,s6.2.2.2.2.1,s6.2.2.2.2.2.1,s6.2.2.2.2.2.2.2.1,s6.2.2.2.2.2.2.2.2.1,()) h29 d8)) λj9=>
zQ s0.2.2.2.1 (
pUn .neg s0.2.2.2.2.2.1 λv69=>
j9 ((iI 65),v4,s0.1,s0.2.1,s0.2.2.1,s0.2.2.2.1,s0.2.2.2.2.1,v69,s0.2.2.2.2.2.2.1,()) h5 d2) (
j9 ((iI 65),v4,s0.1,s0.2.1,s0.2.2.1,s0.2.2.2.1,s0.2.2.2.2.1,s0.2.2.2.2.2.1,s0.2.2.2.2.2.2.1,()) h5 d2)) λj3=>
jv .lss a2 (iI 2) λv70=>
zN (α :=u9_2→AH→R) (λs71 h72=>
yJ s71.2.1 (.bool true) s71.1 λv74=>
zN (α :=u9_2→AH→R) (λs75 h76=>
yJ s75.2.1 (.bool true) s75.1 λv78=>
zQ v78 (
none/-op-/) (
j3 (s75.2.2.1,s75.2.2.2.1,s75.2.2.2.2.1,s75.2.2.2.2.2.1,s75.2.2.2.2.2.2.1,s75.2.2.2.2.2.2.2.1,s75.2.2.2.2.2.2.2.2.1,()) h76 [])) λj77=>
x9 v74 false (
jv .gtr s71.2.2.2.2.2.2.1 (iI 36) λv79=>
j77 (v79,v74,s71.2.2.1,s71.2.2.2.1,s71.2.2.2.2.1,s71.2.2.2.2.2.1,s71.2.2.2.2.2.2.1,s71.2.2.2.2.2.2.2.1,s71.2.2.2.2.2.2.2.2.1,()) h72) (
j77 (.undef,v74,s71.2.2.1,s71.2.2.2.1,s71.2.2.2.2.1,s71.2.2.2.2.2.1,s71.2.2.2.2.2.2.1,s71.2.2.2.2.2.2.2.1,s71.2.2.2.2.2.2.2.2.1,()) h72)) λj73=>
x9 v70 false (
jv .eql a2 (iI 10) λv80=>
j73 (v80,v70,(.str []),.nils,a4,a3,a2,a1,a0,()) h) (
j73 (.undef,v70,(.str []),.nils,a4,a3,a2,a1,a0,()) h)
def W238 : WF :=w_5 S238
theorem W238_ok : WOk Tryz.prog 238 W238 :=qkB (pl :=P238) λ_ _ _ _ _ _ _=>by kernel_rfl
def P241 : Pl :=.z
def S241 : tE2 Tryz.prog P241 241 :=λ_ _ _ _=>.mk _
def P242 : Pl :=(.n none .z (.n none (.n none (.n none (.r [[9,7,0]]) (.n none .z (.n none (.r [[18,16,0]]) .z))) .z) .z))
def S242 : tE1 Tryz.prog P242 242 :=λ_ _ _=>.mk _
def P243 : Pl :=(.n none .z (.n none .z (.n none .z (.n none (.n none .z (.n none (.n (some [20,19,18,5,0]) .z .z) .z)) .z))))
def S243 : tE2 Tryz.prog P243 243 :=λ_ _ _ _=>.mk _
def P246 : Pl :=(.n none .z (.n none (.n none .z (.n none (.n (some [13,12,11,1]) .z .z) .z)) .z))
def S246 : tE2 Tryz.prog P246 246 :=λ_ _ _ _=>.mk _
def P247 : Pl :=(.n none .z (.n none (.n none (.r [[11,7,1,0]]) .z) .z))
def S247 : tE2 Tryz.prog P247 247 :=λ_ _ _ _=>.mk _
def P248 : Pl :=.z
def S248 (_ : CV) (h : AH) : R :=
zW h 9 [(.str [])] 24 [(0,1,(.str [])),(1,1,(.str [115,101,116])),(2,1,(.str [109,111,118,101])),(3,1,(.str [97,100,100])),(4,1,(.str [115,117,98])),(5,1,(.str [109,117,108])),(6,1,(.str [108,101,115,115])),(7,1,(.str [101,113,117,97,108])),(8,1,(.str [108,111,97,100])),(9,1,(.str [115,116,111,114,101])),(10,1,(.str [97,108,108,111,99])),(11,1,(.str [102,114,101,101])),(12,1,(.str [106,117,109,112])),(13,1,(.str [122,101,114,111])),(14,1,(.str [111,112,101,110])),(15,1,(.str [99,108,111,115,101])),(16,1,(.str [117,110,100,111])),(17,1,(.str [101,105,116,104,101,114])),(18,1,(.str [111,114])),(19,1,(.str [100,111,110,101])),(20,1,(.str [114,101,116,114,121])),(21,1,(.str [101,109,105,116])),(22,1,(.str [102,97,105,108])),(23,1,(.str [99,97,108,108]))] λv0 h1=>
some (v0,h1)
def W248 : WF :=w_0 S248
theorem W248_ok : WOk Tryz.prog 248 W248 :=qGc (pl :=P248) λ_ _=>by kernel_rfl
def P249 : Pl :=(.n none .z (.n none .z (.n none (.n none .z (.n none (.n (some [14,13,12,3,0]) .z .z) .z)) (.n none (.n none .z (.n none (.n (some [28,27,26,3]) .z .z) .z)) .z))))
def S249 : tE1 Tryz.prog P249 249 :=λ_ _ _=>.mk _
def P250 : Pl :=(.n none .z (.n none .z (.n (some [0]) .z .z)))
def S250 : tE1 Tryz.prog P250 250 :=λ_ _ _=>.mk _
def P251 : Pl :=.z
def S251 : tE2 Tryz.prog P251 251 :=λ_ _ _ _=>.mk _
def P252 : Pl :=.z
def S252 : tE2 Tryz.prog P252 252 :=λ_ _ _ _=>.mk _
def P253 : Pl :=.z
def S253 : tE2 Tryz.prog P253 253 :=λ_ _ _ _=>.mk _
def P254 : Pl :=(.n none .z (.n none (.n (some [11,10,1,0]) (.n none .z (.n none .z (.n none (.n none (.n none .z (.n none .z (.n none (.n (some [11,10,5,1,0]) (.n none (.n none (.r [[32,27,11,10,5,1,0]]) .z) .z) .z) .z))) .z) .z))) .z) .z))
def S254 : tE2 Tryz.prog P254 254 :=λ_ _ _ _=>.mk _
def P255 : Pl :=(.n none (.r [[5,3,1,0]]) .z)
def S255 : tE4 Tryz.prog P255 255 :=λ_ _ _ _ _ _=>.mk _
def P256 : Pl :=(.n none .z (.n (some [5,4,2,0]) .z (.n none .z (.n none .z (.n none .z (.n (some [6,4,0]) .z .z))))))
def S256 : tE3 Tryz.prog P256 256 :=λ_ _ _ _ _=>.mk _
def P257 : Pl :=.z
def S257 : tE4 Tryz.prog P257 257 :=λ_ _ _ _ _ _=>.mk _
def P258 : Pl :=(.n none .z (.n none .z (.n none .z (.n none (.r [[6]]) .z))))
def S258 : tE3 Tryz.prog P258 258 :=λ_ _ _ _ _=>.mk _
def P259 : Pl :=(.n none .z (.r [[]]))
def S259 : tE4 Tryz.prog P259 259 :=λ_ _ _ _ _ _=>.mk _
def P260 : Pl :=(.n none .z (.n none (.r [[16,7]]) .z))
def S260 : tE2 Tryz.prog P260 260 :=λ_ _ _ _=>.mk _
def P261 : Pl :=(.n none .z (.n (some [5,0]) (.n none .z (.n none (.r [[5,0]]) .z)) .z))
def S261 : tE3 Tryz.prog P261 261 :=λ_ _ _ _ _=>.mk _
def P262 : Pl :=.z
def S262 : tE3 Tryz.prog P262 262 :=λ_ _ _ _ _=>.mk _
def P263 : Pl :=(.n none .z (.n none .z (.n none .z (.n none (.n (some [1]) (.n (some [1,0]) .z .z) .z) .z))))
def S263 : tE2 Tryz.prog P263 263 :=λ_ _ _ _=>.mk _
def P264 : Pl :=(.n none (.n (some [0]) (.n none (.n none (.r [[16,11,0]]) .z) (.n (some [0]) (.n none .z (.n none .z (.n none .z (.n none .z (.n none (.n none (.r [[90,85,4,3,2,0]]) .z) .z))))) .z)) .z) .z)
def S264 : tE1 Tryz.prog P264 264 :=λ_ _ _=>.mk _
def P265 : Pl :=.z
def S265 : tE2 Tryz.prog P265 265 :=λ_ _ _ _=>.mk _
def P266 : Pl :=.z
def S266 : tE1 Tryz.prog P266 266 :=λ_ _ _=>.mk _
def P267 : Pl :=(.n none .z (.n none .z (.n none (.n none .z (.n none (.n (some [15,14,13,3]) .z .z) .z)) .z)))
def S267 : tE1 Tryz.prog P267 267 :=λ_ _ _=>.mk _
def P268 : Pl :=(.n none .z (.n none (.n none (.r [[7,5,0]]) .z) .z))
def S268 : tE1 Tryz.prog P268 268 :=λ_ _ _=>.mk _
def P269 : Pl :=.z
def S269 : tE2 Tryz.prog P269 269 :=λ_ _ _ _=>.mk _
def P270 : Pl :=(.n none .z (.n none .z (.n none (.r [[]]) .z)))
def S270 : tE1 Tryz.prog P270 270 :=λ_ _ _=>.mk _
def P274 : Pl :=.z
def S274 : tE1 Tryz.prog P274 274 :=λ_ _ _=>.mk _
def P275 : Pl :=.z
def S275 : tE1 Tryz.prog P275 275 :=λ_ _ _=>.mk _
def P276 : Pl :=(.n none .z (.n none (.n none .z (.n none (.n (some [8,7,1,0]) .z .z) .z)) .z))
def S276 : tE2 Tryz.prog P276 276 :=λ_ _ _ _=>.mk _
def P277 : Pl :=.z
def S277 : tE2 Tryz.prog P277 277 :=λ_ _ _ _=>.mk _
def P288 : Pl :=(.n none .z (.n none .z (.n none (.n none .z (.n none (.n (some [17,16,15,3,0]) .z .z) .z)) .z)))
def S288 : tE1 Tryz.prog P288 288 :=λ_ _ _=>.mk _
def P289 : Pl :=.z
def S289 : tE2 Tryz.prog P289 289 :=λ_ _ _ _=>.mk _
def P290 : Pl :=.z
def S290 : tE3 Tryz.prog P290 290 :=λ_ _ _ _ _=>.mk _
def P291 : Pl :=(.n none .z (.n (some [4,2,0]) .z .z))
def S291 : tE3 Tryz.prog P291 291 :=λ_ _ _ _ _=>.mk _
def P292 : Pl :=.z
def S292 : tE1 Tryz.prog P292 292 :=λ_ _ _=>.mk _
def P293 : Pl :=.z
def S293 : tE1 Tryz.prog P293 293 :=λ_ _ _=>.mk _
def P294 : Pl :=.z
def S294 : tE1 Tryz.prog P294 294 :=λ_ _ _=>.mk _
def P297 : Pl :=.z
def S297 : tE1 Tryz.prog P297 297 :=λ_ _ _=>.mk _
def P324 : Pl :=.z
def S324 : tE1 Tryz.prog P324 324 :=λ_ _ _=>.mk _
def P325 : Pl :=.z
def S325 : tE1 Tryz.prog P325 325 :=λ_ _ _=>.mk _
def P326 : Pl :=(.n none .z (.n (some []) (.n none .z (.n none .z (.n none .z (.n none .z (.n none (.r [[41,34,3,0]]) .z))))) .z))
def S326 (c : CV) (a0 a1 : AV) (h : AH) : R :=
y8 h 42 a1 λv0 h1=>
zN (α :=Unit→AH→List Nat→R) (λ_ h3 d4=>
zw d4 h3 λh6=>
some ((.tup []),h6)) λj5=>
xv a0 λv7=>
qh v7 0 λv8=>
je h1 v0 6 λv9=>
jw c (.fn 328 [] []) [v8,v9] h1 λv10 h11=>
zQ v10 (
j5 (()) h11 []) (
xv a0 λv12=>
qh v12 8 λv13=>
jK h11 v13 λv14=>
jv .eql v14 (iI 1) λv15=>
zQ v15 (
qh v0 0 λv16=>
jK h11 v16 λv17=>
xv a0 λv18=>
qh v18 12 λv19=>
jj h11 v19 v17 1 λh20=>
xv a0 λv21=>
qh v21 8 λv22=>
jj h20 v22 (iI 2) 1 λh23=>
j5 (()) h23 []) (
xv a0 λv24=>
qh v24 8 λv25=>
jK h11 v25 λv26=>
jv .eql v26 (iI 2) λv27=>
zN (α :=AV×AV×AV×AV×Unit→AH→R) (λs28 h29=>
yJ s28.2.1 s28.1 (.bool false) λv31=>
zQ v31 (
xv s28.2.2.2.1 λv32=>
qh v32 0 λv33=>
jw c (.fn 329 [] []) [v33,(iI 2),(iI 0),(.int .i64 (.negSucc 0))] h29 λ_ h35=>
j5 (()) h35 []) (
qh s28.2.2.1 1 λv36=>
je h29 v36 3 λv37=>
jw c (.fn 330 [] []) [s28.2.2.2.1,v37] h29 λ_ h39=>
j5 (()) h39 [])) λj30=>
x9 v27 true (
qh v0 1 λv40=>
je h11 v40 3 λv41=>
xv a0 λv42=>
qh v42 9 λv43=>
je h11 v43 3 λv44=>
J6 [.bas .int 0,.bas .bool 1,.bas .int 2] false v41 v44 λv45=>
j30 (v45,v27,v0,a0,()) h11) (
j30 (.undef,v27,v0,a0,()) h11)))
def W326 : WF :=w_2 S326
theorem W326_ok : WOk Tryz.prog 326 W326 :=MY (pl :=P326) λ_ _ _ _=>by kernel_rfl
def P327 : Pl :=.z
def S327 : tE1 Tryz.prog P327 327 :=λ_ _ _=>.mk _
def P328 : Pl :=(.n none .z (.n (some [0]) (.n none (.r [[13,10,3,0]]) .z) .z))
def S328 : tE2 Tryz.prog P328 328 :=λ_ _ _ _=>.mk _
def P329 : Pl :=.z
def S329 : tE4 Tryz.prog P329 329 :=λ_ _ _ _ _ _=>.mk _
def P330 : Pl :=(.n none .z (.n none .z (.n (some []) .z .z)))
def S330 : tE2 Tryz.prog P330 330 :=λ_ _ _ _=>.mk _
def P331 : Pl :=.z
def S331 : tE2 Tryz.prog P331 331 :=λ_ _ _ _=>.mk _
def P332 : Pl :=.z
def S332 : tE1 Tryz.prog P332 332 :=λ_ _ _=>.mk _
def P333 : Pl :=.z
def S333 : tE1 Tryz.prog P333 333 :=λ_ _ _=>.mk _
def P334 : Pl :=(.n none .z (.n none (.n (some [0]) (.n none .z (.n none .z (.n none .z (.n none (.r [[0]]) (.n none .z (.n none (.n (some []) .z .z) .z)))))) .z) .z))
def S334 : tE2 Tryz.prog P334 334 :=λ_ _ _ _=>.mk _
def P335 : Pl :=.z
def S335 : tE1 Tryz.prog P335 335 :=λ_ _ _=>.mk _
def P336 : Pl :=.z
def S336 : tE1 Tryz.prog P336 336 :=λ_ _ _=>.mk _
def P337 : Pl :=(.n none .z (.n none .z (.n none .z (.n (some []) (.n (some [13,12,3,0]) .z (.n none .z (.n (some [19,12,3,0]) .z .z))) .z))))
def S337 : tE2 Tryz.prog P337 337 :=λ_ _ _ _=>.mk _
def P338 : Pl :=.z
def S338 : tE1 Tryz.prog P338 338 :=λ_ _ _=>.mk _
def P339 : Pl :=(.n none .z (.n (some []) (.n none (.r [[16,13,3,0]]) .z) .z))
def S339 : tE2 Tryz.prog P339 339 :=λ_ _ _ _=>.mk _
def P340 : Pl :=(.n none .z (.n (some []) (.n none (.r [[15,12,3,0]]) .z) .z))
def S340 : tE2 Tryz.prog P340 340 :=λ_ _ _ _=>.mk _
def P341 : Pl :=(.n none .z (.n (some []) .z .z))
def S341 : tE2 Tryz.prog P341 341 :=λ_ _ _ _=>.mk _
def P342 : Pl :=.z
def S342 : tE1 Tryz.prog P342 342 :=λ_ _ _=>.mk _
def P343 : Pl :=.z
def S343 : tE1 Tryz.prog P343 343 :=λ_ _ _=>.mk _
def P344 : Pl :=.z
def S344 : tE1 Tryz.prog P344 344 :=λ_ _ _=>.mk _
def P345 : Pl :=.z
def S345 : tE2 Tryz.prog P345 345 :=λ_ _ _ _=>.mk _
def P346 : Pl :=.z
def S346 : tE4 Tryz.prog P346 346 :=λ_ _ _ _ _ _=>.mk _
def P347 : Pl :=(.n none (.n none .z (.n none (.n (some [0]) .z .z) .z)) .z)
def S347 : tE1 Tryz.prog P347 347 :=λ_ _ _=>.mk _
def Q0 : Pl :=(.n none .z .z)
def B0 (c : CV) (l : Nat) (v0 _ a1 : AV) (h : AH) : R :=
QM h l λh100=>
jw c (.fn 122 [] []) [(iI 96)] h100 λv101 h102=>
xv a1 λv103=>
qh v103 0 λv104=>
jK h102 v104 λv105=>
jw c (.fn 124 [] []) [v105] h102 λv106 h107=>
jw c (.fn 123 [] []) [v101,v106] h107 λ_ h109=>
jK h109 v0 λv110=>
jw c (.fn 123 [] []) [v101,v110] h109 λ_ h112=>
jw c (.fn 124 [] []) [v101] h112 λv113 h114=>
jj h114 v0 v113 1 λh115=>
z6 h115 l none
theorem B0_eq (c : CV) (l : Nat) (v0 a0 a1 : AV) (h : AH) : KI Tryz.prog NN Q0 c 86 [1,1,0,1,0] [3] l [v0] [a0,a1] h=B0 c l v0 a0 a1 h :=by kernel_rfl
def V0 (c : CV) (l : Nat) (x y : List AV) (h : AH) : R :=match x,y with |[v0],[a0,a1]=>B0 c l v0 a0 a1 h |_,_=>none
theorem V0_ok : VOk Tryz.prog 86 [1,1,0,1,0] [3] V0 :=by
 intro c l x y h r e
 unfold V0 at e
 split at e
 ·exact⟨Q0,by rw[B0_eq];exact e⟩
 ·cases e
def Q1 : Pl :=(.n none .z .z)
def B1 (c : CV) (l : Nat) (v0 v1 v2 _ a1 : AV) (h : AH) : R :=
QM h l λh100=>
xv a1 λv101=>
qh v101 0 λv102=>
jK h100 v102 λv103=>
jK h100 v2 λv104=>
jw c (.fn 265 [] []) [v103,v104] h100 λv105 h106=>
jb v105 0 λv107=>
jb v105 1 λv108=>
zQ v108 (
jj h106 v1 v107 1 λh109=>
jj h109 v0 (.bool true) 1 λh110=>
z6 h110 l (some .ret)) (
z6 h106 l none)
theorem B1_eq (c : CV) (l : Nat) (v0 v1 v2 a0 a1 : AV) (h : AH) : KI Tryz.prog NN Q1 c 224 [1,0,1,0] [5,4,3] l [v0,v1,v2] [a0,a1] h=B1 c l v0 v1 v2 a0 a1 h :=by kernel_rfl
def V1 (c : CV) (l : Nat) (x y : List AV) (h : AH) : R :=match x,y with |[v0,v1,v2],[a0,a1]=>B1 c l v0 v1 v2 a0 a1 h |_,_=>none
theorem V1_ok : VOk Tryz.prog 224 [1,0,1,0] [5,4,3] V1 :=by
 intro c l x y h r e
 unfold V1 at e
 split at e
 ·exact⟨Q1,by rw[B1_eq];exact e⟩
 ·cases e
end
end Go.Proofs.YtnalffoigcmnnaaGreatDoor
