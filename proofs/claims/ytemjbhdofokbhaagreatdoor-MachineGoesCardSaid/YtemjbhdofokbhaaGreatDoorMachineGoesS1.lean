/- Printed by a program of mine: the bodies of the program's functions aa terms of the primitives of the abstract executor, each shown equal by the kernel. -/
import Derived.Test.YtemjbhdofokbhaaGreatDoorProg
import Derived.Test.YtemjbhdofokbhaaGreatDoorMachineGoesAe1
import Derived.KernelRfl
namespace Go.Proofs.YtemjbhdofokbhaaGreatDoor
open Go Go.Ae
abbrev uM : Type :=AV×AV×AV×AV×AV×AV×AV×AV×AV×Unit
set_option maxRecDepth 100000
noncomputable section
attribute [local irreducible] xA Qc QW yB jJ KJ Yt w4 Jg YR YS wF ji zp zV zB kC ug n8 UW rX gt YI KZ CP wB yh wI yM Qd xC Qb J2 o8 w5 yi xL JY vw xk Ze U6 OC CQ ZX Oo zS vV X5 Xz Xh yx gE Bp Yv NO xB yp Gc AV.undef
set_option maxHeartbeats 40000000
def P160 : Pl :=(.n none .z (.n (some [2,1,0]) .z (.n (some [0]) (.n none (.r [[19,17,1,0]]) .z) .z)))
def S160 : dp Tryz.prog P160 160 :=λ_ _ _ _ _=>.mk _
def P161 : Pl :=.z
def S161 : aY Tryz.prog P161 161 :=λ_ _ _=>.mk _
def P162 : Pl :=(.n none .z (.n none (.n none .z (.n none (.n (some [11,10,9,2,1]) (.n none .z (.n none .z (.n none (.n (some [11,10,9,2,1]) (.n none .z (.n none .z (.n none (.r [[33,26,11,10,9,7,6,2,1],[38,33,26,11,10,9,7,6,2,1],[39,26,11,10,9,7,6,2,1],[48,41,11,10,9,7,6,2,1],[58,48,41,11,10,9,6,2,1],[59,41,11,10,9,6,2,1]]) .z))) .z) .z))) .z) .z)) .z))
def S162 : bW Tryz.prog P162 162 :=λ_ _ _ _=>.mk _
def P163 : Pl :=(.n none .z (.n none .z (.n none .z (.n none (.n none .z (.n none (.n (some [14,13,12,4,3]) .z .z) .z)) .z))))
def S163 : aY Tryz.prog P163 163 :=λ_ _ _=>.mk _
def P164 : Pl :=.z
def S164 : aY Tryz.prog P164 164 :=λ_ _ _=>.mk _
def P165 : Pl :=.z
def S165 : bW Tryz.prog P165 165 :=λ_ _ _ _=>.mk _
def P166 : Pl :=(.n none .z (.n none .z (.n none (.n none .z (.n (some []) (.n none .z (.n none .z (.n none .z (.n none .z (.n none .z (.n none .z (.n none .z (.n none .z (.n none .z (.n none .z (.n none .z (.n none .z (.n none .z (.n none .z (.n none .z (.n none .z (.n none .z (.n none .z (.n none .z (.n none .z (.n none .z (.n none .z (.n none .z (.n none .z (.n (some [120,6,5,3,0]) .z .z))))))))))))))))))))))))) .z)) .z)))
def S166 : bW Tryz.prog P166 166 :=λ_ _ _ _=>.mk _
def P167 : Pl :=(.n none .z (.n none (.n none (.r [[17,13,1,0]]) .z) .z))
def S167 : bW Tryz.prog P167 167 :=λ_ _ _ _=>.mk _
def P168 : Pl :=.z
def S168 : bW Tryz.prog P168 168 :=λ_ _ _ _=>.mk _
def P169 : Pl :=.z
def S169 : aY Tryz.prog P169 169 :=λ_ _ _=>.mk _
def P170 : Pl :=(.n none .z (.n none (.n none .z (.n none (.n (some [9,8,7,1,0]) .z .z) .z)) .z))
def S170 : bW Tryz.prog P170 170 :=λ_ _ _ _=>.mk _
def P171 : Pl :=.z
def S171 : aY Tryz.prog P171 171 :=λ_ _ _=>.mk _
def P172 : Pl :=.z
def S172 : aY Tryz.prog P172 172 :=λ_ _ _=>.mk _
def P173 : Pl :=(.n none .z (.n none .z (.n none (.n none .z (.n none (.n (some [13,12,11,5,0]) .z .z) .z)) .z)))
def S173 : bW Tryz.prog P173 173 :=λ_ _ _ _=>.mk _
def P174 : Pl :=.z
def S174 : aY Tryz.prog P174 174 :=λ_ _ _=>.mk _
def P177 : Pl :=.z
def S177 : aY Tryz.prog P177 177 :=λ_ _ _=>.mk _
def P178 : Pl :=(.n none .z (.n none (.n none (.r [[13,10,3,0],[18,15,3,0]]) .z) .z))
def S178 : bW Tryz.prog P178 178 :=λ_ _ _ _=>.mk _
def P179 : Pl :=.z
def S179 : aY Tryz.prog P179 179 :=λ_ _ _=>.mk _
def P180 : Pl :=.z
def S180 : dp Tryz.prog P180 180 :=λ_ _ _ _ _=>.mk _
def P181 : Pl :=.z
def S181 : aY Tryz.prog P181 181 :=λ_ _ _=>.mk _
def P182 : Pl :=.z
def S182 : aY Tryz.prog P182 182 :=λ_ _ _=>.mk _
def P183 : Pl :=.z
def S183 : aY Tryz.prog P183 183 :=λ_ _ _=>.mk _
def P184 : Pl :=.z
def S184 : aY Tryz.prog P184 184 :=λ_ _ _=>.mk _
def P185 : Pl :=.z
def S185 : bW Tryz.prog P185 185 :=λ_ _ _ _=>.mk _
def P189 : Pl :=.z
def S189 : Bq Tryz.prog P189 189 :=λ_ _=>.mk _
def P190 : Pl :=(.n none .z (.n none .z (.n none (.r [[21,17,5,4,1],[27,23,5,1],[33,29,1],[39,35,1],[42,39,35],[43,35]]) .z)))
def S190 : aY Tryz.prog P190 190 :=λ_ _ _=>.mk _
def P191 : Pl :=(.n none .z (.n none .z (.n none (.r [[4]]) .z)))
def S191 : bW Tryz.prog P191 191 :=λ_ _ _ _=>.mk _
def P192 : Pl :=(.n none .z (.n none (.r [[7,5]]) .z))
def S192 : aY Tryz.prog P192 192 :=λ_ _ _=>.mk _
def P193 : Pl :=(.n none .z (.n none (.r [[7,5]]) .z))
def S193 : aY Tryz.prog P193 193 :=λ_ _ _=>.mk _
def P194 : Pl :=.z
def S194 : aY Tryz.prog P194 194 :=λ_ _ _=>.mk _
def P195 : Pl :=.z
def S195 : bW Tryz.prog P195 195 :=λ_ _ _ _=>.mk _
def P196 : Pl :=(.n none .z (.n none .z (.n none (.n none .z (.n none (.n none .z (.n none (.n none (.r [[4]]) .z) (.n none .z (.n none (.n none (.r [[4]]) .z) (.n none .z (.n none (.n none (.r [[4]]) .z) (.n none .z (.n none (.n none (.r [[4]]) .z) (.n none .z (.n none (.n none (.r [[4]]) .z) (.n none .z (.n none (.n none (.r [[4]]) .z) (.n none .z (.n none .z (.n none .z (.n none .z (.n none .z (.n none (.n none (.r [[4]]) .z) (.n none .z (.n none (.n none (.r [[4]]) .z) (.n none .z (.n none (.n none (.r [[4]]) .z) .z)))))))))))))))))))))) .z)) .z)))
def S196 : bW Tryz.prog P196 196 :=λ_ _ _ _=>.mk _
def P197 : Pl :=(.n none .z (.n none (.n none .z (.n none (.n none .z (.n none (.n none .z (.n none .z (.n none .z (.n (some [10]) .z .z)))) (.n none .z (.n none .z (.n none .z (.n none (.n none .z (.n none .z (.n (some [15]) .z .z))) .z)))))) .z)) .z))
def S197 : lZ Tryz.prog P197 197 :=λ_ _ _ _ _ _=>.mk _
def P198 : Pl :=(.n none .z (.n none (.n none .z (.n none (.n (some [7,6,3,0]) .z (.n none .z (.n (some [18,6,0]) .z .z))) .z)) .z))
def S198 : bW Tryz.prog P198 198 :=λ_ _ _ _=>.mk _
def P199 : Pl :=.z
def S199 : aY Tryz.prog P199 199 :=λ_ _ _=>.mk _
def P200 : Pl :=(.n none .z (.n none (.n none (.n none (.r [[9,7,0]]) (.n none .z (.n none (.r [[18,16,0]]) .z))) .z) .z))
def S200 : aY Tryz.prog P200 200 :=λ_ _ _=>.mk _
def P201 : Pl :=(.n none .z (.n none (.r [[14,7]]) .z))
def S201 : bW Tryz.prog P201 201 :=λ_ _ _ _=>.mk _
def P202 : Pl :=(.n none .z (.n none (.n none .z (.n none (.n (some [5,4,3]) .z .z) .z)) .z))
def S202 (c : CV) (a0 a1 : AV) (h : AH) : R :=
w5 h 3 a1 λv0 h1=>
w5 h1 22 (uU 0) λv2 h3=>
w5 h3 4 (.bool false) λv4 h5=>
yB a0 λv6=>
jJ v6 1 λv7=>
ji h5 v7 λv8=>
zS c (.fn 171 [] []) [v8] h5 λv9 eM=>
X5 c v9 [.yield (eM.new .lT).nx] ((eM.new .lT).new (.loop .ready none 202 [1,0,1,0] [5,4,3] [v4,v2,v0] eM.nx)) λ_ dO=>
gE dO (eM.new .lT).nx λp13 mP=>
Yv p13 (
zV mP v2 (uU 0) 1 λoO=>
zV oO v4 (.bool false) 1 λrP=>
xB (eM.nx::[]) rP λrq=>
ji rq v2 λrp=>
ji rq v4 λoP=>
some ((.cn [rp,oP]),rq))<|
Bp p13 .ret (
xB (eM.nx::[]) mP λFe=>
ji Fe v2 λv20=>
ji Fe v4 λv21=>
some ((.cn [v20,v21]),Fe))<|
none
def W202 : WF :=DX S202
theorem W202_ok : iC Tryz.prog 202 W202 :=Pm (pl :=P202) λ_ _ _ _=>by kernel_rfl
def P203 : Pl :=(.n none .z (.n none .z (.n none .z (.n none (.n none .z (.n none (.n (some [20,19,18,5,0]) .z .z) .z)) .z))))
def S203 : bW Tryz.prog P203 203 :=λ_ _ _ _=>.mk _
def P204 : Pl :=(.n none .z (.n none (.n (some [3,1,0]) .z .z) .z))
def S204 : bW Tryz.prog P204 204 :=λ_ _ _ _=>.mk _
def P205 : Pl :=(.n none .z (.n none (.n none (.r [[12,10,2,1,0]]) .z) .z))
def S205 : dp Tryz.prog P205 205 :=λ_ _ _ _ _=>.mk _
def P208 : Pl :=(.n none .z (.n none (.n none .z (.n none (.n (some [13,12,11,1]) .z .z) .z)) .z))
def S208 : bW Tryz.prog P208 208 :=λ_ _ _ _=>.mk _
def P209 : Pl :=.z
def S209 : bW Tryz.prog P209 209 :=λ_ _ _ _=>.mk _
def P212 : Pl :=(.n none .z (.n none .z (.n none (.n none .z (.n (some [4,3,2]) (.n (some [8,7,5,4,3,2]) .z (.n none .z (.n (some [13,7,5,4,3,2]) .z (.n none (.r [[4,3,2]]) (.n (some [18,7,5,4,3,2]) .z (.n none (.r [[4,3,2]]) (.n (some [27,7,5,4,3,2]) .z (.n none (.r [[4,3,2]]) .z)))))))) .z)) (.n none (.r [[4,3,2]]) .z))))
def S212 : aY Tryz.prog P212 212 :=λ_ _ _=>.mk _
def P213 : Pl :=.z
def S213 : aY Tryz.prog P213 213 :=λ_ _ _=>.mk _
def P214 : Pl :=(.n none .z (.n none (.r [[13,9]]) .z))
def S214 : bW Tryz.prog P214 214 :=λ_ _ _ _=>.mk _
def P215 : Pl :=.z
def S215 : bW Tryz.prog P215 215 :=λ_ _ _ _=>.mk _
def P216 : Pl :=.z
def S216 : bW Tryz.prog P216 216 :=λ_ _ _ _=>.mk _
def P221 : Pl :=.z
def S221 : bW Tryz.prog P221 221 :=λ_ _ _ _=>.mk _
def P224 : Pl :=.z
def S224 : dp Tryz.prog P224 224 :=λ_ _ _ _ _=>.mk _
def P225 : Pl :=(.n none .z (.n none .z (.n none (.n none (.r [[24,22,9,8,7,4,0]]) .z) .z)))
def S225 : dp Tryz.prog P225 225 :=λ_ _ _ _ _=>.mk _
def P230 : Pl :=(.n none .z (.n none (.n none (.r [[13,8,1,0],[20,15,1,0]]) .z) .z))
def S230 : bW Tryz.prog P230 230 :=λ_ _ _ _=>.mk _
def P231 : Pl :=.z
def S231 : dp Tryz.prog P231 231 :=λ_ _ _ _ _=>.mk _
def P232 : Pl :=.z
def S232 : bW Tryz.prog P232 232 :=λ_ _ _ _=>.mk _
def P233 : Pl :=(.n none .z (.n none .z (.n (some [7,5,1,0]) (.n none (.r [[19,17,7,5,1,0]]) .z) (.n (some [7,1,0]) .z (.n (some [7]) .z .z)))))
def S233 : bW Tryz.prog P233 233 :=λ_ _ _ _=>.mk _
def P234 : Pl :=(.n none .z (.n none .z (.n none (.r [[]]) .z)))
def S234 : dp Tryz.prog P234 234 :=λ_ _ _ _ _=>.mk _
def P235 : Pl :=.z
def S235 : aY Tryz.prog P235 235 :=λ_ _ _=>.mk _
def P236 : Pl :=.z
def S236 : aY Tryz.prog P236 236 :=λ_ _ _=>.mk _
def P237 : Pl :=.z
def S237 : bW Tryz.prog P237 237 :=λ_ _ _ _=>.mk _
def P238 : Pl :=.z
def S238 : aY Tryz.prog P238 238 :=λ_ _ _=>.mk _
def P239 : Pl :=(.n none .z (.n none (.n none (.n (some [0]) .z .z) .z) .z))
def S239 : aY Tryz.prog P239 239 :=λ_ _ _=>.mk _
def P240 : Pl :=.z
def S240 : bW Tryz.prog P240 240 :=λ_ _ _ _=>.mk _
def P241 : Pl :=.z
def S241 : aY Tryz.prog P241 241 :=λ_ _ _=>.mk _
def P242 : Pl :=(.n none .z (.n none (.n none (.r [[14,12,2,1,0]]) .z) (.n none .z (.n none (.n none .z (.n none (.r [[32,29,7,2,1]]) .z)) .z))))
def S242 : dp Tryz.prog P242 242 :=λ_ _ _ _ _=>.mk _
def P243 : Pl :=.z
def S243 : bW Tryz.prog P243 243 :=λ_ _ _ _=>.mk _
def P255 : Pl :=.z
def S255 (_ : CV) (a0 : AV) (h : AH) : R :=
zB .lss a0 (iI 10) λv0=>
xA v0 (
zB .add a0 (iI 1) λv1=>
wB (.str [48,49,50,51,52,53,54,55,56,57,97,98,99,100,101,102,103,104,105,106,107,108,109,110,111,112,113,114,115,116,117,118,119,120,121,122]) (some a0) (some v1) λv2=>
some (v2,h)) (
zB .mul a0 (iI 2) λv3=>
zB .mul a0 (iI 2) λv4=>
zB .add v4 (iI 2) λv5=>
wB (.str [48,48,48,49,48,50,48,51,48,52,48,53,48,54,48,55,48,56,48,57,49,48,49,49,49,50,49,51,49,52,49,53,49,54,49,55,49,56,49,57,50,48,50,49,50,50,50,51,50,52,50,53,50,54,50,55,50,56,50,57,51,48,51,49,51,50,51,51,51,52,51,53,51,54,51,55,51,56,51,57,52,48,52,49,52,50,52,51,52,52,52,53,52,54,52,55,52,56,52,57,53,48,53,49,53,50,53,51,53,52,53,53,53,54,53,55,53,56,53,57,54,48,54,49,54,50,54,51,54,52,54,53,54,54,54,55,54,56,54,57,55,48,55,49,55,50,55,51,55,52,55,53,55,54,55,55,55,56,55,57,56,48,56,49,56,50,56,51,56,52,56,53,56,54,56,55,56,56,56,57,57,48,57,49,57,50,57,51,57,52,57,53,57,54,57,55,57,56,57,57]) (some v3) (some v5) λv6=>
some (v6,h))
def W255 : WF :=Au S255
theorem W255_ok : iC Tryz.prog 255 W255 :=U9 (pl :=P255) λ_ _ _=>by kernel_rfl
def P261 : Pl :=(.n none .z (.n none (.n none (.r [[11,7,1,0]]) .z) .z))
def S261 : bW Tryz.prog P261 261 :=λ_ _ _ _=>.mk _
def P262 : Pl :=.z
def S262 (_ : CV) (h : AH) : R :=
xL h 9 [(.str [])] 24 [(0,1,(.str [])),(1,1,(.str [115,101,116])),(2,1,(.str [109,111,118,101])),(3,1,(.str [97,100,100])),(4,1,(.str [115,117,98])),(5,1,(.str [109,117,108])),(6,1,(.str [108,101,115,115])),(7,1,(.str [101,113,117,97,108])),(8,1,(.str [108,111,97,100])),(9,1,(.str [115,116,111,114,101])),(10,1,(.str [97,108,108,111,99])),(11,1,(.str [102,114,101,101])),(12,1,(.str [106,117,109,112])),(13,1,(.str [122,101,114,111])),(14,1,(.str [111,112,101,110])),(15,1,(.str [99,108,111,115,101])),(16,1,(.str [117,110,100,111])),(17,1,(.str [101,105,116,104,101,114])),(18,1,(.str [111,114])),(19,1,(.str [100,111,110,101])),(20,1,(.str [114,101,116,114,121])),(21,1,(.str [101,109,105,116])),(22,1,(.str [102,97,105,108])),(23,1,(.str [99,97,108,108]))] λv0 h1=>
some (v0,h1)
def W262 : WF :=Pk S262
theorem W262_ok : iC Tryz.prog 262 W262 :=jV2 (pl :=P262) λ_ _=>by kernel_rfl
def P263 : Pl :=(.n none .z (.n none .z (.n none .z (.n none (.r [[]]) .z))))
def S263 : lZ Tryz.prog P263 263 :=λ_ _ _ _ _ _=>.mk _
def P264 : Pl :=.z
def S264 : bW Tryz.prog P264 264 :=λ_ _ _ _=>.mk _
def P282 : Pl :=(.n none .z (.n none .z (.n none (.n none (.r [[20,13,4,3,1,0],[25,22,4,3,0],[31,25,22,4,3,0],[32,22,4,3,0]]) .z) .z)))
def S282 : r4 Tryz.prog P282 282 :=λ_ _ _ _ _ _ _=>.mk _
def P283 : Pl :=.z
def S283 : aY Tryz.prog P283 283 :=λ_ _ _=>.mk _
def P298 : Pl :=(.n none .z (.n none .z (.n none (.n none .z (.n none (.n (some [3,0]) .z .z) .z)) .z)))
def S298 : aY Tryz.prog P298 298 :=λ_ _ _=>.mk _
def P299 : Pl :=(.n none .z (.n none .z (.n none .z (.n none .z (.n (some [10,8]) .z .z)))))
def S299 : dp Tryz.prog P299 299 :=λ_ _ _ _ _=>.mk _
def P300 : Pl :=(.n none .z (.n none .z (.n none .z (.n none (.n none (.r [[22,20,6,1,0],[33,24,6,1,0]]) .z) .z))))
def S300 : bW Tryz.prog P300 300 :=λ_ _ _ _=>.mk _
def P301 : Pl :=.z
def S301 : bW Tryz.prog P301 301 :=λ_ _ _ _=>.mk _
def P302 : Pl :=.z
def S302 : aY Tryz.prog P302 302 :=λ_ _ _=>.mk _
def P303 : Pl :=.z
def S303 : aY Tryz.prog P303 303 :=λ_ _ _=>.mk _
def P304 : Pl :=(.n none .z (.n none .z (.n none .z (.n none .z (.n none .z (.n none (.r [[2]]) .z))))))
def S304 : aY Tryz.prog P304 304 :=λ_ _ _=>.mk _
def P305 : Pl :=.z
def S305 : bW Tryz.prog P305 305 :=λ_ _ _ _=>.mk _
def P306 : Pl :=.z
def S306 : aY Tryz.prog P306 306 :=λ_ _ _=>.mk _
def P307 : Pl :=(.n none .z (.n none .z (.n none (.n none .z (.n none (.n (some [15,14,13,3]) .z .z) .z)) .z)))
def S307 : aY Tryz.prog P307 307 :=λ_ _ _=>.mk _
def P308 : Pl :=(.n none .z (.n none (.n none .z (.n none (.n (some [8,7,1,0]) .z .z) .z)) .z))
def S308 : bW Tryz.prog P308 308 :=λ_ _ _ _=>.mk _
def P309 : Pl :=.z
def S309 : bW Tryz.prog P309 309 :=λ_ _ _ _=>.mk _
def P336 : Pl :=(.n none .z (.n none (.n none (.r [[7,5,0]]) .z) .z))
def S336 : aY Tryz.prog P336 336 :=λ_ _ _=>.mk _
def P337 : Pl :=.z
def S337 : bW Tryz.prog P337 337 :=λ_ _ _ _=>.mk _
def P338 : Pl :=(.n none .z (.n none .z (.n none (.r [[]]) .z)))
def S338 : aY Tryz.prog P338 338 :=λ_ _ _=>.mk _
def P339 : Pl :=.z
def S339 : aY Tryz.prog P339 339 :=λ_ _ _=>.mk _
def P368 : Pl :=.z
def S368 : aY Tryz.prog P368 368 :=λ_ _ _=>.mk _
def P369 : Pl :=.z
def S369 : aY Tryz.prog P369 369 :=λ_ _ _=>.mk _
def P370 : Pl :=(.n none .z (.n (some []) (.n none .z (.n none .z (.n none .z (.n none .z (.n none (.r [[41,34,3,0]]) .z))))) .z))
def S370 (c : CV) (a0 a1 : AV) (h : AH) : R :=
w5 h 77 a1 λv0 h1=>
yp (α :=Unit→AH→List Nat→R) (λ_ h3 d4=>
xB d4 h3 λh6=>
some ((.cn []),h6)) λj5=>
yB a0 λv7=>
jJ v7 0 λv8=>
zp h1 v0 6 λv9=>
zS c (.fn 372 [] []) [v8,v9] h1 λv10 dO=>
xA v10 (
j5 (()) dO []) (
yB a0 λv12=>
jJ v12 8 λog=>
ji dO og λuL=>
zB .eql uL (iI 1) λsY=>
xA sY (
jJ v0 0 λrN=>
ji dO rN λrp=>
yB a0 λoP=>
jJ oP 12 λuH=>
zV dO uH rp 1 λnQ=>
yB a0 λv21=>
jJ v21 8 λv22=>
zV nQ v22 (iI 2) 1 λsZ=>
j5 (()) sZ []) (
yB a0 λv24=>
jJ v24 8 λpH=>
ji dO pH λuI=>
zB .eql uI (iI 2) λuJ=>
yp (α :=AV×AV×AV×AV×Unit→AH→R) (λFf tW=>
QW Ff.2.1 Ff.1 (.bool false) λv31=>
xA v31 (
yB Ff.2.2.2.1 λFb=>
jJ Fb 0 λuK=>
zS c (.fn 373 [] []) [uK,(iI 2),(iI 0),(.int .i64 (.negSucc 0))] tW λ_ R6=>
j5 (()) R6 []) (
jJ Ff.2.2.1 1 λDc=>
zp tW Dc 3 λv37=>
zS c (.fn 374 [] []) [Ff.2.2.2.1,v37] tW λ_ h39=>
j5 (()) h39 [])) λj30=>
Qc uJ true (
jJ v0 1 λv40=>
zp dO v40 3 λDb=>
yB a0 λDd=>
jJ Dd 9 λBX=>
zp dO BX 3 λFa=>
UW [.nt .int 0,.nt .bool 1,.nt .int 2] false Db Fa λFc=>
j30 (Fc,uJ,v0,a0,()) dO) (
j30 (.undef,uJ,v0,a0,()) dO)))
def W370 : WF :=DX S370
theorem W370_ok : iC Tryz.prog 370 W370 :=Pm (pl :=P370) λ_ _ _ _=>by kernel_rfl
def P371 : Pl :=.z
def S371 : aY Tryz.prog P371 371 :=λ_ _ _=>.mk _
def P372 : Pl :=(.n none .z (.n (some [0]) (.n none (.r [[13,10,3,0]]) .z) .z))
def S372 : bW Tryz.prog P372 372 :=λ_ _ _ _=>.mk _
def P373 : Pl :=.z
def S373 : lZ Tryz.prog P373 373 :=λ_ _ _ _ _ _=>.mk _
def P374 : Pl :=(.n none .z (.n none .z (.n (some []) .z .z)))
def S374 : bW Tryz.prog P374 374 :=λ_ _ _ _=>.mk _
def P375 : Pl :=.z
def S375 : bW Tryz.prog P375 375 :=λ_ _ _ _=>.mk _
def P376 : Pl :=.z
def S376 : aY Tryz.prog P376 376 :=λ_ _ _=>.mk _
def P377 : Pl :=.z
def S377 : aY Tryz.prog P377 377 :=λ_ _ _=>.mk _
def P378 : Pl :=(.n none .z (.n none (.n (some [0]) (.n none .z (.n none .z (.n none .z (.n none (.r [[0]]) (.n none .z (.n none (.n (some []) .z .z) .z)))))) .z) .z))
def S378 : bW Tryz.prog P378 378 :=λ_ _ _ _=>.mk _
def P379 : Pl :=.z
def S379 : aY Tryz.prog P379 379 :=λ_ _ _=>.mk _
end
end Go.Proofs.YtemjbhdofokbhaaGreatDoor
