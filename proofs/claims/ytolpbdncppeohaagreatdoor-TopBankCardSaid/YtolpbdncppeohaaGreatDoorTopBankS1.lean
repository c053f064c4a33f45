/- Printed by a program of mine: the bodies of the program's functions aa terms of the primitives of the abstract executor, each shown equal by the kernel. -/
import Derived.Test.YtolpbdncppeohaaGreatDoorProg
import Derived.Test.YtolpbdncppeohaaGreatDoorTopBankAe1
import Derived.KernelRfl
namespace Go.Proofs.YtolpbdncppeohaaGreatDoor
open Go Go.Ae
abbrev uu : Type :=AV×AV×AV×AV×AV×AV×AV×AV×AV×Unit
set_option maxRecDepth 100000
noncomputable section
attribute [local irreducible] xY wa gt yF jG UE KW gT Je G8 KQ kw ja xH zx zB w5 Nb nY UO tg wA Gr GC Nh w6 vW kB ym JR yY Jx Xo pf kF vn vG Ja vi wY Mr Kk XQ NF KZ Vi Be Ma ND MY ze vB YT Kh YD yI wQ CM GN HL xL yc GM AV.undef
set_option maxHeartbeats 40000000
def P179 : Pl :=(.n none .z (.n none .z (.n none (.n none .z (.n none (.n none .z (.n none (.n none (.r [[4]]) .z) (.n none .z (.n none (.n none (.r [[4]]) .z) (.n none .z (.n none (.n none (.r [[4]]) .z) (.n none .z (.n none (.n none (.r [[4]]) .z) (.n none .z (.n none (.n none (.r [[4]]) .z) (.n none .z (.n none (.n none (.r [[4]]) .z) (.n none .z (.n none .z (.n none .z (.n none .z (.n none .z (.n none (.n none (.r [[4]]) .z) (.n none .z (.n none (.n none (.r [[4]]) .z) (.n none .z (.n none (.n none (.r [[4]]) .z) .z)))))))))))))))))))))) .z)) .z)))
def S179 : bN Tryz.prog P179 179 :=λ_ _ _ _=>.mk _
def P180 : Pl :=(.n none .z (.n none (.n none .z (.n none (.n none .z (.n none (.n none .z (.n none .z (.n none .z (.n (some [10]) .z .z)))) (.n none .z (.n none .z (.n none .z (.n none (.n none .z (.n none .z (.n (some [15]) .z .z))) .z)))))) .z)) .z))
def S180 : lN Tryz.prog P180 180 :=λ_ _ _ _ _ _=>.mk _
def P181 : Pl :=(.n none .z (.n none (.n none .z (.n none (.n (some [7,6,3,0]) .z (.n none .z (.n (some [18,6,0]) .z .z))) .z)) .z))
def S181 : bN Tryz.prog P181 181 :=λ_ _ _ _=>.mk _
def P182 : Pl :=.z
def S182 : aY Tryz.prog P182 182 :=λ_ _ _=>.mk _
def P183 : Pl :=(.n none .z (.n none (.n none (.n none (.r [[9,7,0]]) (.n none .z (.n none (.r [[18,16,0]]) .z))) .z) .z))
def S183 : aY Tryz.prog P183 183 :=λ_ _ _=>.mk _
def P184 : Pl :=(.n none .z (.n none (.r [[14,7]]) .z))
def S184 : bN Tryz.prog P184 184 :=λ_ _ _ _=>.mk _
def P185 : Pl :=(.n none .z (.n none (.n none .z (.n none (.n (some [5,4,3]) .z .z) .z)) .z))
def S185 (c : CV) (a0 a1 : AV) (h : AH) : R :=
kF h 3 a1 λv0 h1=>
kF h1 22 (uU 0) λv2 h3=>
kF h3 4 (.bool false) λv4 h5=>
yF a0 λv6=>
jG v6 1 λv7=>
ja h5 v7 λv8=>
ze c (.fn 154 [] []) [v8] h5 λv9 fk=>
YT c v9 [.yield (fk.new .lH).nx] ((fk.new .lH).new (.loop .ready none 185 [1,0,1,0] [5,4,3] [v4,v2,v0] fk.nx)) λ_ dy=>
wQ dy (fk.new .lH).nx λp13 nP=>
GN p13 (
zx nP v2 (uU 0) 1 λBP=>
zx BP v4 (.bool false) 1 λrj=>
xL (fk.nx::[]) rj λuv=>
ja uv v2 λpL=>
ja uv v4 λnR=>
some ((.bV [pL,nR]),uv))<|
CM p13 .ret (
xL (fk.nx::[]) nP λFg=>
ja Fg v2 λv20=>
ja Fg v4 λv21=>
some ((.bV [v20,v21]),Fg))<|
none
def W185 : WF :=DP S185
theorem W185_ok : hZ Tryz.prog 185 W185 :=Lq (pl :=P185) λ_ _ _ _=>by kernel_rfl
def P186 : Pl :=(.n none .z (.n none .z (.n none .z (.n none (.n none .z (.n none (.n (some [20,19,18,5,0]) .z .z) .z)) .z))))
def S186 : bN Tryz.prog P186 186 :=λ_ _ _ _=>.mk _
def P187 : Pl :=(.n none .z (.n none (.n (some [3,1,0]) .z .z) .z))
def S187 : bN Tryz.prog P187 187 :=λ_ _ _ _=>.mk _
def P188 : Pl :=(.n none .z (.n none (.n none (.r [[12,10,2,1,0]]) .z) .z))
def S188 : dh Tryz.prog P188 188 :=λ_ _ _ _ _=>.mk _
def P191 : Pl :=(.n none .z (.n none (.n none .z (.n none (.n (some [13,12,11,1]) .z .z) .z)) .z))
def S191 : bN Tryz.prog P191 191 :=λ_ _ _ _=>.mk _
def P192 : Pl :=.z
def S192 : bN Tryz.prog P192 192 :=λ_ _ _ _=>.mk _
def P195 : Pl :=(.n none .z (.n none .z (.n none (.n none .z (.n (some [4,3,2]) (.n (some [8,7,5,4,3,2]) .z (.n none .z (.n (some [13,7,5,4,3,2]) .z (.n none (.r [[4,3,2]]) (.n (some [18,7,5,4,3,2]) .z (.n none (.r [[4,3,2]]) (.n (some [27,7,5,4,3,2]) .z (.n none (.r [[4,3,2]]) .z)))))))) .z)) (.n none (.r [[4,3,2]]) .z))))
def S195 : aY Tryz.prog P195 195 :=λ_ _ _=>.mk _
def P196 : Pl :=.z
def S196 : aY Tryz.prog P196 196 :=λ_ _ _=>.mk _
def P197 : Pl :=(.n none .z (.n none (.r [[13,9]]) .z))
def S197 : bN Tryz.prog P197 197 :=λ_ _ _ _=>.mk _
def P198 : Pl :=.z
def S198 : bN Tryz.prog P198 198 :=λ_ _ _ _=>.mk _
def P199 : Pl :=.z
def S199 : bN Tryz.prog P199 199 :=λ_ _ _ _=>.mk _
def P200 : Pl :=(.n none .z (.n none .z (.n none .z (.n none (.r [[17,15,9]]) .z))))
def S200 : dh Tryz.prog P200 200 :=λ_ _ _ _ _=>.mk _
def P201 : Pl :=(.n none .z (.n none .z (.n none .z (.n none (.r [[17,15,9]]) .z))))
def S201 : dh Tryz.prog P201 201 :=λ_ _ _ _ _=>.mk _
def P202 : Pl :=(.n none .z (.n none .z (.n none .z (.n none (.r [[17,15,9]]) .z))))
def S202 : dh Tryz.prog P202 202 :=λ_ _ _ _ _=>.mk _
def P203 : Pl :=(.n none .z (.n none .z (.n none .z (.n none (.r [[19,17,11]]) .z))))
def S203 : lN Tryz.prog P203 203 :=λ_ _ _ _ _ _=>.mk _
def P204 : Pl :=.z
def S204 : bN Tryz.prog P204 204 :=λ_ _ _ _=>.mk _
def P205 : Pl :=.z
def S205 : dh Tryz.prog P205 205 :=λ_ _ _ _ _=>.mk _
def P206 : Pl :=(.n none .z (.n none .z (.n none .z (.n none (.r [[17,15,9]]) .z))))
def S206 : dh Tryz.prog P206 206 :=λ_ _ _ _ _=>.mk _
def P207 : Pl :=.z
def S207 : dh Tryz.prog P207 207 :=λ_ _ _ _ _=>.mk _
def P208 : Pl :=(.n none .z (.n none .z (.n none (.n none (.r [[24,22,9,8,7,4,0]]) .z) .z)))
def S208 : dh Tryz.prog P208 208 :=λ_ _ _ _ _=>.mk _
def P209 : Pl :=(.n none .z (.n none .z (.n none .z (.n none (.r [[19,17,11]]) .z))))
def S209 : lN Tryz.prog P209 209 :=λ_ _ _ _ _ _=>.mk _
def P210 : Pl :=.z
def S210 : dh Tryz.prog P210 210 :=λ_ _ _ _ _=>.mk _
def P211 : Pl :=(.n none .z (.n none .z (.n none .z (.n none (.r [[17,15,9]]) .z))))
def S211 : dh Tryz.prog P211 211 :=λ_ _ _ _ _=>.mk _
def P212 : Pl :=.z
def S212 : lN Tryz.prog P212 212 :=λ_ _ _ _ _ _=>.mk _
def P213 : Pl :=(.n none .z (.n none (.n none (.r [[13,8,1,0],[20,15,1,0]]) .z) .z))
def S213 : bN Tryz.prog P213 213 :=λ_ _ _ _=>.mk _
def P214 : Pl :=.z
def S214 : dh Tryz.prog P214 214 :=λ_ _ _ _ _=>.mk _
def P215 : Pl :=.z
def S215 : bN Tryz.prog P215 215 :=λ_ _ _ _=>.mk _
def P216 : Pl :=(.n none .z (.n none .z (.n (some [7,5,1,0]) (.n none (.r [[19,17,7,5,1,0]]) .z) (.n (some [7,1,0]) .z (.n (some [7]) .z .z)))))
def S216 : bN Tryz.prog P216 216 :=λ_ _ _ _=>.mk _
def P217 : Pl :=(.n none .z (.n none .z (.n none (.r [[]]) .z)))
def S217 : dh Tryz.prog P217 217 :=λ_ _ _ _ _=>.mk _
def P218 : Pl :=.z
def S218 : aY Tryz.prog P218 218 :=λ_ _ _=>.mk _
def P219 : Pl :=.z
def S219 : aY Tryz.prog P219 219 :=λ_ _ _=>.mk _
def P220 : Pl :=.z
def S220 : bN Tryz.prog P220 220 :=λ_ _ _ _=>.mk _
def P221 : Pl :=.z
def S221 : aY Tryz.prog P221 221 :=λ_ _ _=>.mk _
def P222 : Pl :=(.n none .z (.n none (.n none (.n (some [0]) .z .z) .z) .z))
def S222 : aY Tryz.prog P222 222 :=λ_ _ _=>.mk _
def P223 : Pl :=.z
def S223 : bN Tryz.prog P223 223 :=λ_ _ _ _=>.mk _
def P224 : Pl :=.z
def S224 : aY Tryz.prog P224 224 :=λ_ _ _=>.mk _
def P225 : Pl :=(.n none .z (.n none (.n none (.r [[14,12,2,1,0]]) .z) (.n none .z (.n none (.n none .z (.n none (.r [[32,29,7,2,1]]) .z)) .z))))
def S225 : dh Tryz.prog P225 225 :=λ_ _ _ _ _=>.mk _
def P226 : Pl :=.z
def S226 : bN Tryz.prog P226 226 :=λ_ _ _ _=>.mk _
def P238 : Pl :=.z
def S238 (_ : CV) (a0 : AV) (h : AH) : R :=
zB .lss a0 (iI 10) λv0=>
xY v0 (
zB .add a0 (iI 1) λv1=>
w6 (.str [48,49,50,51,52,53,54,55,56,57,97,98,99,100,101,102,103,104,105,106,107,108,109,110,111,112,113,114,115,116,117,118,119,120,121,122]) (some a0) (some v1) λv2=>
some (v2,h)) (
zB .mul a0 (iI 2) λv3=>
zB .mul a0 (iI 2) λv4=>
zB .add v4 (iI 2) λv5=>
w6 (.str [48,48,48,49,48,50,48,51,48,52,48,53,48,54,48,55,48,56,48,57,49,48,49,49,49,50,49,51,49,52,49,53,49,54,49,55,49,56,49,57,50,48,50,49,50,50,50,51,50,52,50,53,50,54,50,55,50,56,50,57,51,48,51,49,51,50,51,51,51,52,51,53,51,54,51,55,51,56,51,57,52,48,52,49,52,50,52,51,52,52,52,53,52,54,52,55,52,56,52,57,53,48,53,49,53,50,53,51,53,52,53,53,53,54,53,55,53,56,53,57,54,48,54,49,54,50,54,51,54,52,54,53,54,54,54,55,54,56,54,57,55,48,55,49,55,50,55,51,55,52,55,53,55,54,55,55,55,56,55,57,56,48,56,49,56,50,56,51,56,52,56,53,56,54,56,55,56,56,56,57,57,48,57,49,57,50,57,51,57,52,57,53,57,54,57,55,57,56,57,57]) (some v3) (some v5) λv6=>
some (v6,h))
def W238 : WF :=Ag S238
theorem W238_ok : hZ Tryz.prog 238 W238 :=Uf (pl :=P238) λ_ _ _=>by kernel_rfl
def P241 : Pl :=(.n none .z (.n (some [11,10,4,3,2,1,0]) (.n none (.r [[23,21,11,10,4,3,2,1,0],[27,25,11,10,4,3,2,1,0]]) .z) (.n none .z (.n none .z (.n (some [13,12,11,10,4,3,2,1,0]) .z (.n (some [13,12,11,10,4,3,0]) (.n none .z (.n none (.n none .z (.n none .z (.n none .z (.n none (.n none (.n (some [16,15,14,13,12,11,10,4,3,1,0]) .z .z) .z) .z)))) (.n none .z (.n none (.n none (.n (some [17,13,12,11,10,4,3,1,0]) .z .z) .z) .z)))) (.n (some [13,12,11,10,4,0]) .z .z)))))))
def S241 (c : CV) (a0 a1 a2 a3 a4 : AV) (h : AH) : R :=
yc (α :=AV×AV×AV×AV×AV×AV×AV×Unit→AH→List Nat→R) (λs0 h1 d2=>
kF h1 348 (.agg [(.int .u8 (.ofNat 0)),(.int .u8 (.ofNat 0)),(.int .u8 (.ofNat 0)),(.int .u8 (.ofNat 0)),(.int .u8 (.ofNat 0)),(.int .u8 (.ofNat 0)),(.int .u8 (.ofNat 0)),(.int .u8 (.ofNat 0)),(.int .u8 (.ofNat 0)),(.int .u8 (.ofNat 0)),(.int .u8 (.ofNat 0)),(.int .u8 (.ofNat 0)),(.int .u8 (.ofNat 0)),(.int .u8 (.ofNat 0)),(.int .u8 (.ofNat 0)),(.int .u8 (.ofNat 0)),(.int .u8 (.ofNat 0)),(.int .u8 (.ofNat 0)),(.int .u8 (.ofNat 0)),(.int .u8 (.ofNat 0)),(.int .u8 (.ofNat 0)),(.int .u8 (.ofNat 0)),(.int .u8 (.ofNat 0)),(.int .u8 (.ofNat 0)),(.int .u8 (.ofNat 0)),(.int .u8 (.ofNat 0)),(.int .u8 (.ofNat 0)),(.int .u8 (.ofNat 0)),(.int .u8 (.ofNat 0)),(.int .u8 (.ofNat 0)),(.int .u8 (.ofNat 0)),(.int .u8 (.ofNat 0)),(.int .u8 (.ofNat 0)),(.int .u8 (.ofNat 0)),(.int .u8 (.ofNat 0)),(.int .u8 (.ofNat 0)),(.int .u8 (.ofNat 0)),(.int .u8 (.ofNat 0)),(.int .u8 (.ofNat 0)),(.int .u8 (.ofNat 0)),(.int .u8 (.ofNat 0)),(.int .u8 (.ofNat 0)),(.int .u8 (.ofNat 0)),(.int .u8 (.ofNat 0)),(.int .u8 (.ofNat 0)),(.int .u8 (.ofNat 0)),(.int .u8 (.ofNat 0)),(.int .u8 (.ofNat 0)),(.int .u8 (.ofNat 0)),(.int .u8 (.ofNat 0)),(.int .u8 (.ofNat 0)),(.int .u8 (.ofNat 0)),(.int .u8 (.ofNat 0)),(.int .u8 (.ofNat 0)),(.int .u8 (.ofNat 0)),(.int .u8 (.ofNat 0)),(.int .u8 (.ofNat 0)),(.int .u8 (.ofNat 0)),(.int .u8 (.ofNat 0)),(.int .u8 (.ofNat 0)),(.int .u8 (.ofNat 0)),(.int .u8 (.ofNat 0)),(.int .u8 (.ofNat 0)),(.int .u8 (.ofNat 0)),(.int .u8 (.ofNat 0))]) λv4 h5=>
yc (α :=uu→AH→List Nat→R) (λs6 h7 d8=>
yc (α :=AV×AV×AV×AV×AV×AV×AV×Unit→AH→List Nat→R) (λig dy d12=>
yc (α :=AV×AV×AV×AV×AV×AV×Unit→AH→List Nat→R) (λAI rj d16=>
xY AI.2.2.2.2.1 (
kB 65 1 AI.2.1 (some AI.1) none λnR=>
wY rj 5 1 AI.2.2.2.2.2.1 nR λrh pK=>
xL d16 pK λIG=>
some ((.bV [rh,AI.2.2.1]),IG)) (
kB 65 1 AI.2.1 (some AI.1) none λv22=>
GC rj v22 λri=>
xL d16 rj λP2=>
some ((.bV [AI.2.2.2.1,ri]),P2))) λj17=>
xY ig.2.2.2.2.2.1 (
zB .sub ig.1 (iI 1) λrk=>
Je ig.2.1 rk 65 1 λuo=>
zx dy uo (.int .u8 (.ofNat 45)) 1 λBU=>
j17 (rk,ig.2.1,ig.2.2.1,ig.2.2.2.1,ig.2.2.2.2.1,ig.2.2.2.2.2.2.1,()) BU d12) (
j17 (ig.1,ig.2.1,ig.2.2.1,ig.2.2.2.1,ig.2.2.2.2.1,ig.2.2.2.2.2.2.1,()) dy d12)) λj13=>
ze c (.fn 301 [] []) [s6.2.2.2.2.2.2.1] h7 λv28 tF=>
xY v28 (
wA .u64 s6.2.2.2.2.2.2.1 λv30=>
ze c (.fn 302 [] []) [v30] tF λv31 BR=>
wA .u64 v31 λuq=>
wA .u64 s6.2.2.2.2.2.2.1 λPZ=>
wA .u64 s6.2.2.2.2.2.2.1 λDc=>
zB .sub Dc (uU 1) λtD=>
GM (σ :=AV×AV×AV×AV×AV×AV×AV×AV×AV×AV×AV×Unit) NN (λi40 fC Fa d39=>
zB .geq fC.2.2.2.2.2.2.2.2.2.1 fC.2.1 λDd=>
xY Dd (
zB .sub fC.2.2.2.1 (iI 1) λDe=>
zB .and fC.2.2.2.2.2.2.2.2.2.1 fC.1 λBS=>
kw (.str [48,49,50,51,52,53,54,55,56,57,97,98,99,100,101,102,103,104,105,106,107,108,109,110,111,112,113,114,115,116,117,118,119,120,121,122]) BS λBO=>
Je fC.2.2.2.2.1 De 65 1 λFf=>
zx Fa Ff BO 1 λh46=>
w5 .shr fC.2.2.2.2.2.2.2.2.2.1 fC.2.2.1 λv47=>
i40 (fC.1,fC.2.1,fC.2.2.1,De,fC.2.2.2.2.1,fC.2.2.2.2.2.1,fC.2.2.2.2.2.2.1,fC.2.2.2.2.2.2.2.1,fC.2.2.2.2.2.2.2.2.1,v47,fC.2.2.2.2.2.2.2.2.2.2.1,()) h46 d39) (
zB .sub fC.2.2.2.1 (iI 1) λDa=>
kw (.str [48,49,50,51,52,53,54,55,56,57,97,98,99,100,101,102,103,104,105,106,107,108,109,110,111,112,113,114,115,116,117,118,119,120,121,122]) fC.2.2.2.2.2.2.2.2.2.1 λv49=>
Je fC.2.2.2.2.1 Da 65 1 λPS=>
zx Fa PS v49 1 λPU=>
j13 (Da,fC.2.2.2.2.1,fC.2.2.2.2.2.1,fC.2.2.2.2.2.2.1,fC.2.2.2.2.2.2.2.1,fC.2.2.2.2.2.2.2.2.1,fC.2.2.2.2.2.2.2.2.2.2.1,()) PU d39)) (tD,PZ,uq,s6.1,s6.2.1,s6.2.2.1,s6.2.2.2.1,s6.2.2.2.2.1,s6.2.2.2.2.2.1,s6.2.2.2.2.2.2.2.1,s6.2.2.2.2.2.2.2.2.1,()) BR d8) (
wA .u64 s6.2.2.2.2.2.2.1 λFb=>
GM (σ :=uu) NN (λi56 iP IF d55=>
zB .geq iP.2.2.2.2.2.2.2.1 iP.1 λFc=>
xY Fc (
zB .sub iP.2.1 (iI 1) λDb=>
zB .quo iP.2.2.2.2.2.2.2.1 iP.1 λv59=>
zB .mul v59 iP.1 λPX=>
zB .sub iP.2.2.2.2.2.2.2.1 PX λv61=>
kw (.str [48,49,50,51,52,53,54,55,56,57,97,98,99,100,101,102,103,104,105,106,107,108,109,110,111,112,113,114,115,116,117,118,119,120,121,122]) v61 λv62=>
Je iP.2.2.1 Db 65 1 λv63=>
zx IF v63 v62 1 λh64=>
i56 (iP.1,Db,iP.2.2.1,iP.2.2.2.1,iP.2.2.2.2.1,iP.2.2.2.2.2.1,iP.2.2.2.2.2.2.1,v59,iP.2.2.2.2.2.2.2.2.1,()) h64 d55) (
zB .sub iP.2.1 (iI 1) λv65=>
kw (.str [48,49,50,51,52,53,54,55,56,57,97,98,99,100,101,102,103,104,105,106,107,108,109,110,111,112,113,114,115,116,117,118,119,120,121,122]) iP.2.2.2.2.2.2.2.1 λv66=>
Je iP.2.2.1 v65 65 1 λv67=>
zx IF v67 v66 1 λh68=>
j13 (v65,iP.2.2.1,iP.2.2.2.1,iP.2.2.2.2.1,iP.2.2.2.2.2.1,iP.2.2.2.2.2.2.1,iP.2.2.2.2.2.2.2.2.1,()) h68 d55)) (Fb,s6.1,s6.2.1,s6.2.2.1,s6.2.2.2.1,s6.2.2.2.2.1,s6.2.2.2.2.2.1,s6.2.2.2.2.2.2.2.1,s6.2.2.2.2.2.2.2.2.1,()) tF d8)) λj9=>
xY s0.2.2.2.1 (
tg .neg s0.2.2.2.2.2.1 λv69=>
j9 ((iI 65),v4,s0.1,s0.2.1,s0.2.2.1,s0.2.2.2.1,s0.2.2.2.2.1,v69,s0.2.2.2.2.2.2.1,()) h5 d2) (
j9 ((iI 65),v4,s0.1,s0.2.1,s0.2.2.1,s0.2.2.2.1,s0.2.2.2.2.1,s0.2.2.2.2.2.1,s0.2.2.2.2.2.2.1,()) h5 d2)) λj3=>
zB .lss a2 (iI 2) λv70=>
yc (α :=uu→AH→R) (λnz h72=>
gt nz.2.1 (.bool true) nz.1 λRa=>
yc (α :=uu→AH→R) (λuw h76=>
gt uw.2.1 (.bool true) uw.1 λv78=>
xY v78 (
none/-op-/) (
j3 (uw.2.2.1,uw.2.2.2.1,uw.2.2.2.2.1,uw.2.2.2.2.2.1,uw.2.2.2.2.2.2.1,uw.2.2.2.2.2.2.2.1,uw.2.2.2.2.2.2.2.2.1,()) h76 [])) λj77=>
wa Ra false (
zB .gtr nz.2.2.2.2.2.2.1 (iI 36) λv79=>
j77 (v79,Ra,nz.2.2.1,nz.2.2.2.1,nz.2.2.2.2.1,nz.2.2.2.2.2.1,nz.2.2.2.2.2.2.1,nz.2.2.2.2.2.2.2.1,nz.2.2.2.2.2.2.2.2.1,()) h72) (
j77 (.undef,Ra,nz.2.2.1,nz.2.2.2.1,nz.2.2.2.2.1,nz.2.2.2.2.2.1,nz.2.2.2.2.2.2.1,nz.2.2.2.2.2.2.2.1,nz.2.2.2.2.2.2.2.2.1,()) h72)) λj73=>
wa v70 false (
zB .eql a2 (iI 10) λv80=>
j73 (v80,v70,(.str []),.ak,a4,a3,a2,a1,a0,()) h) (
j73 (.undef,v70,(.str []),.ak,a4,a3,a2,a1,a0,()) h)
def W241 : WF :=Lt S241
theorem W241_ok : hZ Tryz.prog 241 W241 :=jKm (pl :=P241) λ_ _ _ _ _ _ _=>by kernel_rfl
def P244 : Pl :=(.n none .z (.n none (.n none (.r [[11,7,1,0]]) .z) .z))
def S244 : bN Tryz.prog P244 244 :=λ_ _ _ _=>.mk _
def P245 : Pl :=.z
def S245 (_ : CV) (h : AH) : R :=
vG h 9 [(.str [])] 24 [(0,1,(.str [])),(1,1,(.str [115,101,116])),(2,1,(.str [109,111,118,101])),(3,1,(.str [97,100,100])),(4,1,(.str [115,117,98])),(5,1,(.str [109,117,108])),(6,1,(.str [108,101,115,115])),(7,1,(.str [101,113,117,97,108])),(8,1,(.str [108,111,97,100])),(9,1,(.str [115,116,111,114,101])),(10,1,(.str [97,108,108,111,99])),(11,1,(.str [102,114,101,101])),(12,1,(.str [106,117,109,112])),(13,1,(.str [122,101,114,111])),(14,1,(.str [111,112,101,110])),(15,1,(.str [99,108,111,115,101])),(16,1,(.str [117,110,100,111])),(17,1,(.str [101,105,116,104,101,114])),(18,1,(.str [111,114])),(19,1,(.str [100,111,110,101])),(20,1,(.str [114,101,116,114,121])),(21,1,(.str [101,109,105,116])),(22,1,(.str [102,97,105,108])),(23,1,(.str [99,97,108,108]))] λv0 h1=>
some (v0,h1)
def W245 : WF :=Ia S245
theorem W245_ok : hZ Tryz.prog 245 W245 :=Tv (pl :=P245) λ_ _=>by kernel_rfl
def P246 : Pl :=(.n none .z (.n none .z (.n none .z (.n none (.r [[]]) .z))))
def S246 : lN Tryz.prog P246 246 :=λ_ _ _ _ _ _=>.mk _
def P247 : Pl :=.z
def S247 : bN Tryz.prog P247 247 :=λ_ _ _ _=>.mk _
def P248 : Pl :=(.n none .z (.n none (.n none (.r [[17,15,2,0]]) .z) (.n none .z (.n none .z (.n none .z (.n none .z (.n none .z (.n none (.n none .z (.n none (.n (some [67,66,65,0]) .z .z) .z)) .z))))))))
def S248 : dh Tryz.prog P248 248 :=λ_ _ _ _ _=>.mk _
def P249 : Pl :=(.n none .z (.n none (.n none (.r [[22,18,6,5,3,2,0]]) .z) .z))
def S249 : lN Tryz.prog P249 249 :=λ_ _ _ _ _ _=>.mk _
def P250 : Pl :=(.n none .z (.n none .z (.n none (.n (some [7,6]) (.n (some [7,6,2,0]) (.n none .z (.n none (.n none .z (.n none (.n none (.r [[22,16,7,6,2,0]]) .z) .z)) .z)) .z) .z) .z)))
def S250 : dh Tryz.prog P250 250 :=λ_ _ _ _ _=>.mk _
def P251 : Pl :=.z
def S251 : aY Tryz.prog P251 251 :=λ_ _ _=>.mk _
def P252 : Pl :=(.n none .z (.n none (.r [[11,9,2,1,0],[19,13]]) .z))
def S252 : dh Tryz.prog P252 252 :=λ_ _ _ _ _=>.mk _
def P253 : Pl :=.z
def S253 : bN Tryz.prog P253 253 :=λ_ _ _ _=>.mk _
def P254 : Pl :=.z
def S254 : dh Tryz.prog P254 254 :=λ_ _ _ _ _=>.mk _
def P255 : Pl :=.z
def S255 : dh Tryz.prog P255 255 :=λ_ _ _ _ _=>.mk _
def P256 : Pl :=.z
def S256 : lN Tryz.prog P256 256 :=λ_ _ _ _ _ _=>.mk _
def P257 : Pl :=.z
def S257 : bN Tryz.prog P257 257 :=λ_ _ _ _=>.mk _
def P258 : Pl :=.z
def S258 : bN Tryz.prog P258 258 :=λ_ _ _ _=>.mk _
def P259 : Pl :=.z
def S259 : lN Tryz.prog P259 259 :=λ_ _ _ _ _ _=>.mk _
def P260 : Pl :=(.n none .z (.n (some [6,4,3,2,0]) (.n none (.r [[20,15,6,4,3,2,1,0]]) .z) (.n none .z (.n none .z (.n none .z (.n (some [7,6,4,3,2,0]) (.n none (.r [[53,43,7,6,4,3,2,0],[60,55,7,6,4,3,2,0]]) .z) .z))))))
def S260 : rz Tryz.prog P260 260 :=λ_ _ _ _ _ _ _=>.mk _
def P261 : Pl :=(.n none .z (.n none .z (.n none .z (.n none .z (.n none .z (.n (some [6,5,0]) (.n none (.r [[40,38,6,5,0],[47,42,6,5,0]]) .z) .z))))))
def S261 : bN Tryz.prog P261 261 :=λ_ _ _ _=>.mk _
def P262 : Pl :=(.n none .z (.n none .z (.n none (.n none .z (.n none (.n (some [14,5,1,0]) .z .z) .z)) .z)))
def S262 : bN Tryz.prog P262 262 :=λ_ _ _ _=>.mk _
def P263 : Pl :=(.n none .z (.n none (.r [[4,1,0]]) (.n none (.n none (.n (some [4,1,0]) (.n none .z (.n none (.n none .z (.n none (.n none (.r [[39,30,5,4,1,0]]) .z) .z)) .z)) .z) .z) .z)))
def S263 : bN Tryz.prog P263 263 :=λ_ _ _ _=>.mk _
def P264 : Pl :=(.n none .z (.n none .z (.n none .z (.n none .z (.n none .z (.n none (.n none .z (.n none (.n (some [25,24,23,4,2,1]) .z .z) .z)) (.n none .z (.n none (.r [[4,2,1]]) .z))))))))
def S264 : aY Tryz.prog P264 264 :=λ_ _ _=>.mk _
def P265 : Pl :=(.n none .z (.n none .z (.n none (.n none (.r [[20,13,4,3,1,0],[25,22,4,3,0],[31,25,22,4,3,0],[32,22,4,3,0]]) .z) .z)))
def S265 : rz Tryz.prog P265 265 :=λ_ _ _ _ _ _ _=>.mk _
def P266 : Pl :=.z
def S266 : aY Tryz.prog P266 266 :=λ_ _ _=>.mk _
def P267 : Pl :=(.n none .z (.n none (.n none (.r [[20,15,6,4,3,2,0]]) .z) .z))
def S267 : rz Tryz.prog P267 267 :=λ_ _ _ _ _ _ _=>.mk _
def P268 : Pl :=(.n none .z (.n none (.n none (.r [[19,14,5,3,2,0]]) .z) .z))
def S268 : lN Tryz.prog P268 268 :=λ_ _ _ _ _ _=>.mk _
def P269 : Pl :=.z
def S269 : dh Tryz.prog P269 269 :=λ_ _ _ _ _=>.mk _
def P270 : Pl :=.z
def S270 : bN Tryz.prog P270 270 :=λ_ _ _ _=>.mk _
def P271 : Pl :=.z
def S271 : rz Tryz.prog P271 271 :=λ_ _ _ _ _ _ _=>.mk _
def P272 : Pl :=(.n none .z (.n none .z (.n none (.n none .z (.n none (.n (some [5,1,0]) (.n none (.n none (.r [[20,15,5,1,0]]) .z) (.n none (.n none .z (.n none .z (.n none .z (.n (some [7,5,1,0]) .z .z)))) .z)) .z) .z)) .z)))
def S272 : bN Tryz.prog P272 272 :=λ_ _ _ _=>.mk _
def P273 : Pl :=.z
def S273 : dh Tryz.prog P273 273 :=λ_ _ _ _ _=>.mk _
def P274 : Pl :=(.n none (.n none (.n (some [0]) (.n none (.n none (.r [[17,12,0]]) .z) (.n none (.n none .z (.n none (.r [[4,3,2,0]]) .z)) .z)) .z) .z) (.n none (.r [[92,87,0]]) .z))
def S274 : aY Tryz.prog P274 274 :=λ_ _ _=>.mk _
def P275 : Pl :=.z
def S275 : rz Tryz.prog P275 275 :=λ_ _ _ _ _ _ _=>.mk _
def P276 : Pl :=(.n none .z (.n none .z (.n none (.r [[18,16,6,5,3]]) .z)))
def S276 : lN Tryz.prog P276 276 :=λ_ _ _ _ _ _=>.mk _
def P277 : Pl :=(.n (some [1,0]) (.n none (.r [[15,11,1,0]]) (.n none (.n none .z (.n none (.r [[4,1,0]]) (.n none (.r [[4,0]]) .z))) .z)) (.n none .z (.n (some [5,1,0]) .z (.n none .z (.n none .z (.n none (.n (some [1,0]) .z .z) .z))))))
def S277 : bN Tryz.prog P277 277 :=λ_ _ _ _=>.mk _
def P278 : Pl :=(.n none .z (.r [[]]))
def S278 : rz Tryz.prog P278 278 :=λ_ _ _ _ _ _ _=>.mk _
def P279 : Pl :=(.n none .z (.n none (.n none (.r [[20,14,4,3,2,1,0]]) .z) (.n none .z (.n (some [11,4,3,2,1,0]) .z (.n (some [11,4,3,2,1,0]) (.n none (.r [[47,44,11,4,3,2,1,0]]) .z) (.n (some [4]) .z .z))))))
def S279 : rz Tryz.prog P279 279 :=λ_ _ _ _ _ _ _=>.mk _
def P280 : Pl :=.z
def S280 : aY Tryz.prog P280 280 :=λ_ _ _=>.mk _
def P281 : Pl :=(.n none .z (.n none .z (.n none (.n none .z (.n none (.n (some [3,0]) .z .z) .z)) .z)))
def S281 : aY Tryz.prog P281 281 :=λ_ _ _=>.mk _
def P282 : Pl :=(.n none .z (.n none .z (.n none .z (.n none .z (.n (some [10,8]) .z .z)))))
def S282 : dh Tryz.prog P282 282 :=λ_ _ _ _ _=>.mk _
def P283 : Pl :=(.n none .z (.n none .z (.n none .z (.n none (.n none (.r [[22,20,6,1,0],[33,24,6,1,0]]) .z) .z))))
def S283 : bN Tryz.prog P283 283 :=λ_ _ _ _=>.mk _
def P284 : Pl :=.z
def S284 : bN Tryz.prog P284 284 :=λ_ _ _ _=>.mk _
def P285 : Pl :=.z
def S285 : aY Tryz.prog P285 285 :=λ_ _ _=>.mk _
def P286 : Pl :=.z
def S286 : aY Tryz.prog P286 286 :=λ_ _ _=>.mk _
def P287 : Pl :=(.n none .z (.n none .z (.n none .z (.n none .z (.n none .z (.n none (.r [[2]]) .z))))))
def S287 : aY Tryz.prog P287 287 :=λ_ _ _=>.mk _
def P288 : Pl :=.z
def S288 : bN Tryz.prog P288 288 :=λ_ _ _ _=>.mk _
def P289 : Pl :=.z
def S289 : aY Tryz.prog P289 289 :=λ_ _ _=>.mk _
def P290 : Pl :=(.n none .z (.n none .z (.n none (.n none .z (.n none (.n (some [15,14,13,3]) .z .z) .z)) .z)))
def S290 : aY Tryz.prog P290 290 :=λ_ _ _=>.mk _
def P291 : Pl :=(.n none .z (.n none (.n none .z (.n none (.n (some [8,7,1,0]) .z .z) .z)) .z))
def S291 : bN Tryz.prog P291 291 :=λ_ _ _ _=>.mk _
def P292 : Pl :=.z
def S292 : bN Tryz.prog P292 292 :=λ_ _ _ _=>.mk _
def P295 : Pl :=.z
def S295 : aY Tryz.prog P295 295 :=λ_ _ _=>.mk _
def P301 : Pl :=.z
def S301 : aY Tryz.prog P301 301 :=λ_ _ _=>.mk _
def P302 : Pl :=.z
def S302 : aY Tryz.prog P302 302 :=λ_ _ _=>.mk _
def P303 : Pl :=(.n none .z (.n none .z (.n none (.n none .z (.n none (.n (some [14,13,12,3,0]) .z .z) .z)) (.n none (.n none .z (.n none (.n (some [28,27,26,3]) .z .z) .z)) .z))))
def S303 : aY Tryz.prog P303 303 :=λ_ _ _=>.mk _
def P304 : Pl :=(.n none .z (.n none .z (.n (some [0]) .z .z)))
def S304 : aY Tryz.prog P304 304 :=λ_ _ _=>.mk _
def P305 : Pl :=.z
def S305 : bN Tryz.prog P305 305 :=λ_ _ _ _=>.mk _
def P306 : Pl :=.z
def S306 : bN Tryz.prog P306 306 :=λ_ _ _ _=>.mk _
def P307 : Pl :=.z
def S307 : bN Tryz.prog P307 307 :=λ_ _ _ _=>.mk _
def P308 : Pl :=(.n none .z (.n none (.n (some [11,10,1,0]) (.n none .z (.n none .z (.n none (.n none (.n none .z (.n none .z (.n none (.n (some [11,10,5,1,0]) (.n none (.n none (.r [[32,27,11,10,5,1,0]]) .z) .z) .z) .z))) .z) .z))) .z) .z))
def S308 : bN Tryz.prog P308 308 :=λ_ _ _ _=>.mk _
def P309 : Pl :=(.n none (.r [[5,3,1,0]]) .z)
def S309 : lN Tryz.prog P309 309 :=λ_ _ _ _ _ _=>.mk _
def P310 : Pl :=(.n none .z (.n (some [5,4,2,0]) .z (.n none .z (.n none .z (.n none .z (.n (some [6,4,0]) .z .z))))))
def S310 : dh Tryz.prog P310 310 :=λ_ _ _ _ _=>.mk _
def P311 : Pl :=.z
def S311 : lN Tryz.prog P311 311 :=λ_ _ _ _ _ _=>.mk _
def P312 : Pl :=(.n none .z (.n none .z (.n none .z (.n none (.r [[6]]) .z))))
def S312 : dh Tryz.prog P312 312 :=λ_ _ _ _ _=>.mk _
def P313 : Pl :=(.n none .z (.r [[]]))
def S313 : lN Tryz.prog P313 313 :=λ_ _ _ _ _ _=>.mk _
def P314 : Pl :=(.n none .z (.n none (.r [[16,7]]) .z))
def S314 : bN Tryz.prog P314 314 :=λ_ _ _ _=>.mk _
def P315 : Pl :=(.n none .z (.n (some [5,0]) (.n none .z (.n none (.r [[5,0]]) .z)) .z))
def S315 : dh Tryz.prog P315 315 :=λ_ _ _ _ _=>.mk _
def P316 : Pl :=.z
def S316 : dh Tryz.prog P316 316 :=λ_ _ _ _ _=>.mk _
def P317 : Pl :=(.n none .z (.n none .z (.n none .z (.n none (.n (some [1]) (.n (some [1,0]) .z .z) .z) .z))))
def S317 : bN Tryz.prog P317 317 :=λ_ _ _ _=>.mk _
def P318 : Pl :=(.n none (.n (some [0]) (.n none (.n none (.r [[16,11,0]]) .z) (.n (some [0]) (.n none .z (.n none .z (.n none .z (.n none .z (.n none (.n none (.r [[90,85,4,3,2,0]]) .z) .z))))) .z)) .z) .z)
def S318 : aY Tryz.prog P318 318 :=λ_ _ _=>.mk _
def P319 : Pl :=(.n none .z (.n none (.n none (.r [[7,5,0]]) .z) .z))
def S319 : aY Tryz.prog P319 319 :=λ_ _ _=>.mk _
def P320 : Pl :=.z
def S320 : bN Tryz.prog P320 320 :=λ_ _ _ _=>.mk _
def P321 : Pl :=(.n none .z (.n none .z (.n none (.r [[]]) .z)))
def S321 : aY Tryz.prog P321 321 :=λ_ _ _=>.mk _
def P322 : Pl :=.z
def S322 : aY Tryz.prog P322 322 :=λ_ _ _=>.mk _
def P324 : Pl :=.z
def S324 : aY Tryz.prog P324 324 :=λ_ _ _=>.mk _
def P325 : Pl :=.z
def S325 : aY Tryz.prog P325 325 :=λ_ _ _=>.mk _
def P326 : Pl :=.z
def S326 : bN Tryz.prog P326 326 :=λ_ _ _ _=>.mk _
def P327 : Pl :=.z
def S327 : dh Tryz.prog P327 327 :=λ_ _ _ _ _=>.mk _
def P328 : Pl :=(.n none .z (.n (some [4,2,0]) .z .z))
def S328 : dh Tryz.prog P328 328 :=λ_ _ _ _ _=>.mk _
def P352 : Pl :=.z
def S352 : aY Tryz.prog P352 352 :=λ_ _ _=>.mk _
def P353 : Pl :=.z
def S353 : aY Tryz.prog P353 353 :=λ_ _ _=>.mk _
def P354 : Pl :=(.n none .z (.n (some []) (.n none .z (.n none .z (.n none .z (.n none .z (.n none (.r [[41,34,3,0]]) .z))))) .z))
def S354 (c : CV) (a0 a1 : AV) (h : AH) : R :=
kF h 75 a1 λv0 h1=>
yc (α :=Unit→AH→List Nat→R) (λ_ h3 d4=>
xL d4 h3 λh6=>
some ((.bV []),h6)) λj5=>
yF a0 λv7=>
jG v7 0 λv8=>
xH h1 v0 6 λv9=>
ze c (.fn 356 [] []) [v8,v9] h1 λv10 dy=>
xY v10 (
j5 (()) dy []) (
yF a0 λv12=>
jG v12 8 λsj=>
ja dy sj λur=>
zB .eql ur (iI 1) λsi=>
xY si (
jG v0 0 λsk=>
ja dy sk λpL=>
yF a0 λnR=>
jG nR 12 λrh=>
zx dy rh pL 1 λpK=>
yF a0 λv21=>
jG v21 8 λv22=>
zx pK v22 (iI 2) 1 λtE=>
j5 (()) tE []) (
yF a0 λv24=>
jG v24 8 λrk=>
ja dy rk λuo=>
zB .eql uo (iI 2) λBQ=>
yc (α :=AV×AV×AV×AV×Unit→AH→R) (λFh tF=>
gt Fh.2.1 Fh.1 (.bool false) λv31=>
xY v31 (
yF Fh.2.2.2.1 λum=>
jG um 0 λuq=>
ze c (.fn 357 [] []) [uq,(iI 2),(iI 0),(.int .i64 (.negSucc 0))] tF λ_ Rb=>
j5 (()) Rb []) (
jG Fh.2.2.1 1 λtD=>
xH tF tD 3 λv37=>
ze c (.fn 358 [] []) [Fh.2.2.2.1,v37] tF λ_ h39=>
j5 (()) h39 [])) λj30=>
wa BQ true (
jG v0 1 λv40=>
xH dy v40 3 λDd=>
yF a0 λDe=>
jG De 9 λBS=>
xH dy BS 3 λBO=>
UO [.mO .int 0,.mO .bool 1,.mO .int 2] false Dd BO λFf=>
j30 (Ff,BQ,v0,a0,()) dy) (
j30 (.undef,BQ,v0,a0,()) dy)))
def W354 : WF :=DP S354
theorem W354_ok : hZ Tryz.prog 354 W354 :=Lq (pl :=P354) λ_ _ _ _=>by kernel_rfl
def P355 : Pl :=.z
def S355 : aY Tryz.prog P355 355 :=λ_ _ _=>.mk _
def P356 : Pl :=(.n none .z (.n (some [0]) (.n none (.r [[13,10,3,0]]) .z) .z))
def S356 : bN Tryz.prog P356 356 :=λ_ _ _ _=>.mk _
def P357 : Pl :=.z
def S357 : lN Tryz.prog P357 357 :=λ_ _ _ _ _ _=>.mk _
def P358 : Pl :=(.n none .z (.n none .z (.n (some []) .z .z)))
def S358 : bN Tryz.prog P358 358 :=λ_ _ _ _=>.mk _
def P359 : Pl :=.z
def S359 : bN Tryz.prog P359 359 :=λ_ _ _ _=>.mk _
def P360 : Pl :=.z
def S360 : aY Tryz.prog P360 360 :=λ_ _ _=>.mk _
def P361 : Pl :=.z
def S361 : aY Tryz.prog P361 361 :=λ_ _ _=>.mk _
def P362 : Pl :=(.n none .z (.n none (.n (some [0]) (.n none .z (.n none .z (.n none .z (.n none (.r [[0]]) (.n none .z (.n none (.n (some []) .z .z) .z)))))) .z) .z))
def S362 : bN Tryz.prog P362 362 :=λ_ _ _ _=>.mk _
def P363 : Pl :=.z
def S363 : aY Tryz.prog P363 363 :=λ_ _ _=>.mk _
def P364 : Pl :=.z
def S364 : aY Tryz.prog P364 364 :=λ_ _ _=>.mk _
def P365 : Pl :=(.n none .z (.n none .z (.n none .z (.n (some []) (.n (some [13,12,3,0]) .z (.n none .z (.n (some [19,12,3,0]) .z .z))) .z))))
def S365 : bN Tryz.prog P365 365 :=λ_ _ _ _=>.mk _
def P366 : Pl :=.z
def S366 : aY Tryz.prog P366 366 :=λ_ _ _=>.mk _
def P367 : Pl :=(.n none .z (.n (some []) (.n none (.r [[16,13,3,0]]) .z) .z))
def S367 : bN Tryz.prog P367 367 :=λ_ _ _ _=>.mk _
def P368 : Pl :=(.n none .z (.n (some []) (.n none (.r [[15,12,3,0]]) .z) .z))
def S368 : bN Tryz.prog P368 368 :=λ_ _ _ _=>.mk _
def P369 : Pl :=(.n none .z (.n (some []) .z .z))
def S369 : bN Tryz.prog P369 369 :=λ_ _ _ _=>.mk _
def P370 : Pl :=.z
def S370 : aY Tryz.prog P370 370 :=λ_ _ _=>.mk _
def P371 : Pl :=.z
def S371 : aY Tryz.prog P371 371 :=λ_ _ _=>.mk _
def P372 : Pl :=.z
def S372 : aY Tryz.prog P372 372 :=λ_ _ _=>.mk _
def P373 : Pl :=.z
def S373 : bN Tryz.prog P373 373 :=λ_ _ _ _=>.mk _
def P374 : Pl :=.z
def S374 : lN Tryz.prog P374 374 :=λ_ _ _ _ _ _=>.mk _
def P375 : Pl :=(.n none (.n none .z (.n none (.n (some [0]) .z .z) .z)) .z)
def S375 : aY Tryz.prog P375 375 :=λ_ _ _=>.mk _
def Q0 : Pl :=(.n none .z .z)
def B0 (c : CV) (l : Nat) (v0 _ a1 : AV) (h : AH) : R :=
YD h l λsq=>
ze c (.fn 155 [] []) [(iI 96)] sq λsu Fi=>
yF a1 λBV=>
jG BV 0 λBW=>
ja Fi BW λv105=>
ze c (.fn 157 [] []) [v105] Fi λRc Re=>
ze c (.fn 156 [] []) [su,Rc] Re λ_ ux=>
ja ux v0 λRf=>
ze c (.fn 156 [] []) [su,Rf] ux λ_ Rg=>
ze c (.fn 157 [] []) [su] Rg λRh Ri=>
zx Ri v0 Rh 1 λRj=>
yI Rj l none
theorem B0_eq (c : CV) (l : Nat) (v0 a0 a1 : AV) (h : AH) : NR Tryz.prog NN Q0 c 128 [1,1,0,1,0] [3] l [v0] [a0,a1] h=B0 c l v0 a0 a1 h :=by kernel_rfl
def V0 (c : CV) (l : Nat) (x y : List AV) (h : AH) : R :=match x,y with |[v0],[a0,a1]=>B0 c l v0 a0 a1 h |_,_=>none
theorem V0_ok : DO Tryz.prog 128 [1,1,0,1,0] [3] V0 :=by
 intro c l x y h r e
 unfold V0 at e
 split at e
 ·exact⟨Q0,by rw[B0_eq];exact e⟩
 ·cases e
def Q1 : Pl :=(.n none .z .z)
def B1 (c : CV) (l : Nat) (v0 v1 v2 _ a1 : AV) (h : AH) : R :=
YD h l λsq=>
yF a1 λsu=>
jG su 0 λRk=>
ja sq Rk λBV=>
ja sq v2 λBW=>
ze c (.fn 223 [] []) [BV,BW] sq λv105 Fj=>
yY v105 0 λv107=>
yY v105 1 λRl=>
xY Rl (
zx Fj v1 v107 1 λux=>
zx ux v0 (.bool true) 1 λRm=>
yI Rm l (some .ret)) (
yI Fj l none)
theorem B1_eq (c : CV) (l : Nat) (v0 v1 v2 a0 a1 : AV) (h : AH) : NR Tryz.prog NN Q1 c 185 [1,0,1,0] [5,4,3] l [v0,v1,v2] [a0,a1] h=B1 c l v0 v1 v2 a0 a1 h :=by kernel_rfl
def V1 (c : CV) (l : Nat) (x y : List AV) (h : AH) : R :=match x,y with |[v0,v1,v2],[a0,a1]=>B1 c l v0 v1 v2 a0 a1 h |_,_=>none
theorem V1_ok : DO Tryz.prog 185 [1,0,1,0] [5,4,3] V1 :=by
 intro c l x y h r e
 unfold V1 at e
 split at e
 ·exact⟨Q1,by rw[B1_eq];exact e⟩
 ·cases e
end
end Go.Proofs.YtolpbdncppeohaaGreatDoor
