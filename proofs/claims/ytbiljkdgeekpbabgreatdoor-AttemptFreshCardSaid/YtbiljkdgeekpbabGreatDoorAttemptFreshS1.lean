/- Printed by a program of mine: the bodies of the program's functions aa terms of the primitives of the abstract executor, each shown equal by the kernel. -/
import Derived.Test.YtbiljkdgeekpbabGreatDoorProg
import Derived.Test.YtbiljkdgeekpbabGreatDoorAttemptFreshAe1
import Derived.KernelRfl
namespace Go.Proofs.YtbiljkdgeekpbabGreatDoor
open Go Go.Ae
set_option maxRecDepth 100000
noncomputable section
attribute [local irreducible] zW xi xh z7 ql XH JT vv wR JI JL vI jJ jt jv jD gB Uf pEq XQ pUn y6 Jg UM Ma gM yX gc yZ wN ji kV kN pMM vq zh xU w7 yJ y0 Gw Jc w5 Gn JN YM Nv GY Gm Ys jF xm Qz XM QX xW ym pIs Q7 U0 zS zb Q6 AV.undef
set_option maxHeartbeats 40000000
def P176 : Pl :=.z
def S176 : tE3 Tryz.prog P176 176 :=λ_ _ _ _ _=>.mk _
def P177 : Pl :=(.n none .z (.n none .z (.n none (.n none (.r [[24,22,9,8,7,4,0]]) .z) .z)))
def S177 : tE3 Tryz.prog P177 177 :=λ_ _ _ _ _=>.mk _
def P178 : Pl :=(.n none .z (.n none .z (.n none .z (.n none (.r [[19,17,11]]) .z))))
def S178 : tE4 Tryz.prog P178 178 :=λ_ _ _ _ _ _=>.mk _
def P179 : Pl :=.z
def S179 : tE3 Tryz.prog P179 179 :=λ_ _ _ _ _=>.mk _
def P180 : Pl :=(.n none .z (.n none .z (.n none .z (.n none (.r [[17,15,9]]) .z))))
def S180 : tE3 Tryz.prog P180 180 :=λ_ _ _ _ _=>.mk _
def P181 : Pl :=.z
def S181 : tE4 Tryz.prog P181 181 :=λ_ _ _ _ _ _=>.mk _
def P182 : Pl :=(.n none .z (.n none (.n none (.r [[13,8,1,0],[20,15,1,0]]) .z) .z))
def S182 : tE2 Tryz.prog P182 182 :=λ_ _ _ _=>.mk _
def P183 : Pl :=.z
def S183 : tE3 Tryz.prog P183 183 :=λ_ _ _ _ _=>.mk _
def P184 : Pl :=.z
def S184 : tE2 Tryz.prog P184 184 :=λ_ _ _ _=>.mk _
def P185 : Pl :=(.n none .z (.n none .z (.n (some [7,5,1,0]) (.n none (.r [[19,17,7,5,1,0]]) .z) (.n (some [7,1,0]) .z (.n (some [7]) .z .z)))))
def S185 : tE2 Tryz.prog P185 185 :=λ_ _ _ _=>.mk _
def P186 : Pl :=(.n none .z (.n none .z (.n none (.r [[]]) .z)))
def S186 : tE3 Tryz.prog P186 186 :=λ_ _ _ _ _=>.mk _
def P187 : Pl :=.z
def S187 : tE1 Tryz.prog P187 187 :=λ_ _ _=>.mk _
def P188 : Pl :=.z
def S188 : tE1 Tryz.prog P188 188 :=λ_ _ _=>.mk _
def P189 : Pl :=.z
def S189 : tE2 Tryz.prog P189 189 :=λ_ _ _ _=>.mk _
def P190 : Pl :=.z
def S190 : tE1 Tryz.prog P190 190 :=λ_ _ _=>.mk _
def P191 : Pl :=(.n none .z (.n none (.n none (.n (some [0]) .z .z) .z) .z))
def S191 : tE1 Tryz.prog P191 191 :=λ_ _ _=>.mk _
def P192 : Pl :=.z
def S192 : tE2 Tryz.prog P192 192 :=λ_ _ _ _=>.mk _
def P193 : Pl :=.z
def S193 : tE1 Tryz.prog P193 193 :=λ_ _ _=>.mk _
def P194 : Pl :=(.n none .z (.n none (.n none (.r [[14,12,2,1,0]]) .z) (.n none .z (.n none (.n none .z (.n none (.r [[32,29,7,2,1]]) .z)) .z))))
def S194 : tE3 Tryz.prog P194 194 :=λ_ _ _ _ _=>.mk _
def P195 : Pl :=.z
def S195 : tE2 Tryz.prog P195 195 :=λ_ _ _ _=>.mk _
def P209 : Pl :=.z
def S209 : tE1 Tryz.prog P209 209 :=λ_ _ _=>.mk _
def P210 : Pl :=.z
def S210 : tE1 Tryz.prog P210 210 :=λ_ _ _=>.mk _
def P211 : Pl :=(.n none .z (.n none .z (.n none .z (.n none (.r [[]]) .z))))
def S211 : tE4 Tryz.prog P211 211 :=λ_ _ _ _ _ _=>.mk _
def P212 : Pl :=.z
def S212 : tE2 Tryz.prog P212 212 :=λ_ _ _ _=>.mk _
def P213 : Pl :=(.n none .z (.n none (.n none (.r [[17,15,2,0]]) .z) (.n none .z (.n none .z (.n none .z (.n none .z (.n none .z (.n none (.n none .z (.n none (.n (some [67,66,65,0]) .z .z) .z)) .z))))))))
def S213 : tE3 Tryz.prog P213 213 :=λ_ _ _ _ _=>.mk _
def P214 : Pl :=(.n none .z (.n none (.n none (.r [[22,18,6,5,3,2,0]]) .z) .z))
def S214 : tE4 Tryz.prog P214 214 :=λ_ _ _ _ _ _=>.mk _
def P215 : Pl :=(.n none .z (.n none .z (.n none (.n (some [7,6]) (.n (some [7,6,2,0]) (.n none .z (.n none (.n none .z (.n none (.n none (.r [[22,16,7,6,2,0]]) .z) .z)) .z)) .z) .z) .z)))
def S215 : tE3 Tryz.prog P215 215 :=λ_ _ _ _ _=>.mk _
def P216 : Pl :=.z
def S216 : tE1 Tryz.prog P216 216 :=λ_ _ _=>.mk _
def P217 : Pl :=(.n none .z (.n none (.r [[11,9,2,1,0],[19,13]]) .z))
def S217 : tE3 Tryz.prog P217 217 :=λ_ _ _ _ _=>.mk _
def P218 : Pl :=.z
def S218 : tE2 Tryz.prog P218 218 :=λ_ _ _ _=>.mk _
def P219 : Pl :=.z
def S219 : tE3 Tryz.prog P219 219 :=λ_ _ _ _ _=>.mk _
def P220 : Pl :=.z
def S220 : tE3 Tryz.prog P220 220 :=λ_ _ _ _ _=>.mk _
def P221 : Pl :=.z
def S221 : tE4 Tryz.prog P221 221 :=λ_ _ _ _ _ _=>.mk _
def P222 : Pl :=.z
def S222 : tE2 Tryz.prog P222 222 :=λ_ _ _ _=>.mk _
def P223 : Pl :=.z
def S223 : tE2 Tryz.prog P223 223 :=λ_ _ _ _=>.mk _
def P224 : Pl :=.z
def S224 : tE4 Tryz.prog P224 224 :=λ_ _ _ _ _ _=>.mk _
def P225 : Pl :=(.n none .z (.n (some [6,4,3,2,0]) (.n none (.r [[20,15,6,4,3,2,1,0]]) .z) (.n none .z (.n none .z (.n none .z (.n (some [7,6,4,3,2,0]) (.n none (.r [[53,43,7,6,4,3,2,0],[60,55,7,6,4,3,2,0]]) .z) .z))))))
def S225 : tE5 Tryz.prog P225 225 :=λ_ _ _ _ _ _ _=>.mk _
def P226 : Pl :=(.n none .z (.n none .z (.n none .z (.n none .z (.n none .z (.n (some [6,5,0]) (.n none (.r [[40,38,6,5,0],[47,42,6,5,0]]) .z) .z))))))
def S226 : tE2 Tryz.prog P226 226 :=λ_ _ _ _=>.mk _
def P227 : Pl :=(.n none .z (.n none .z (.n none (.n none .z (.n none (.n (some [14,5,1,0]) .z .z) .z)) .z)))
def S227 : tE2 Tryz.prog P227 227 :=λ_ _ _ _=>.mk _
def P228 : Pl :=(.n none .z (.n none (.r [[4,1,0]]) (.n none (.n none (.n (some [4,1,0]) (.n none .z (.n none (.n none .z (.n none (.n none (.r [[39,30,5,4,1,0]]) .z) .z)) .z)) .z) .z) .z)))
def S228 : tE2 Tryz.prog P228 228 :=λ_ _ _ _=>.mk _
def P229 : Pl :=(.n none .z (.n none .z (.n none .z (.n none .z (.n none .z (.n none (.n none .z (.n none (.n (some [25,24,23,4,2,1]) .z .z) .z)) (.n none .z (.n none (.r [[4,2,1]]) .z))))))))
def S229 : tE1 Tryz.prog P229 229 :=λ_ _ _=>.mk _
def P230 : Pl :=(.n none .z (.n none .z (.n none (.n none (.r [[20,13,4,3,1,0],[25,22,4,3,0],[31,25,22,4,3,0],[32,22,4,3,0]]) .z) .z)))
def S230 : tE5 Tryz.prog P230 230 :=λ_ _ _ _ _ _ _=>.mk _
def P231 : Pl :=.z
def S231 : tE1 Tryz.prog P231 231 :=λ_ _ _=>.mk _
def P232 : Pl :=(.n none .z (.n none (.n none (.r [[20,15,6,4,3,2,0]]) .z) .z))
def S232 : tE5 Tryz.prog P232 232 :=λ_ _ _ _ _ _ _=>.mk _
def P233 : Pl :=(.n none .z (.n none (.n none (.r [[19,14,5,3,2,0]]) .z) .z))
def S233 : tE4 Tryz.prog P233 233 :=λ_ _ _ _ _ _=>.mk _
def P234 : Pl :=.z
def S234 : tE3 Tryz.prog P234 234 :=λ_ _ _ _ _=>.mk _
def P235 : Pl :=.z
def S235 : tE2 Tryz.prog P235 235 :=λ_ _ _ _=>.mk _
def P236 : Pl :=.z
def S236 : tE5 Tryz.prog P236 236 :=λ_ _ _ _ _ _ _=>.mk _
def P237 : Pl :=(.n none .z (.n none .z (.n none (.n none .z (.n none (.n (some [5,1,0]) (.n none (.n none (.r [[20,15,5,1,0]]) .z) (.n none (.n none .z (.n none .z (.n none .z (.n (some [7,5,1,0]) .z .z)))) .z)) .z) .z)) .z)))
def S237 : tE2 Tryz.prog P237 237 :=λ_ _ _ _=>.mk _
def P238 : Pl :=.z
def S238 : tE3 Tryz.prog P238 238 :=λ_ _ _ _ _=>.mk _
def P239 : Pl :=(.n none (.n none (.n (some [0]) (.n none (.n none (.r [[17,12,0]]) .z) (.n none (.n none .z (.n none (.r [[4,3,2,0]]) .z)) .z)) .z) .z) (.n none (.r [[92,87,0]]) .z))
def S239 : tE1 Tryz.prog P239 239 :=λ_ _ _=>.mk _
def P240 : Pl :=.z
def S240 : tE5 Tryz.prog P240 240 :=λ_ _ _ _ _ _ _=>.mk _
def P241 : Pl :=(.n none .z (.n none .z (.n none (.r [[18,16,6,5,3]]) .z)))
def S241 : tE4 Tryz.prog P241 241 :=λ_ _ _ _ _ _=>.mk _
def P242 : Pl :=(.n (some [1,0]) (.n none (.r [[15,11,1,0]]) (.n none (.n none .z (.n none (.r [[4,1,0]]) (.n none (.r [[4,0]]) .z))) .z)) (.n none .z (.n (some [5,1,0]) .z (.n none .z (.n none .z (.n none (.n (some [1,0]) .z .z) .z))))))
def S242 : tE2 Tryz.prog P242 242 :=λ_ _ _ _=>.mk _
def P243 : Pl :=(.n none .z (.r [[]]))
def S243 : tE5 Tryz.prog P243 243 :=λ_ _ _ _ _ _ _=>.mk _
def P244 : Pl :=(.n none .z (.n none (.n none (.r [[20,14,4,3,2,1,0]]) .z) (.n none .z (.n (some [11,4,3,2,1,0]) .z (.n (some [11,4,3,2,1,0]) (.n none (.r [[47,44,11,4,3,2,1,0]]) .z) (.n (some [4]) .z .z))))))
def S244 : tE5 Tryz.prog P244 244 :=λ_ _ _ _ _ _ _=>.mk _
def P245 : Pl :=.z
def S245 : tE1 Tryz.prog P245 245 :=λ_ _ _=>.mk _
def P246 : Pl :=(.n none .z (.n none .z (.n none (.n none .z (.n none (.n (some [3,0]) .z .z) .z)) .z)))
def S246 : tE1 Tryz.prog P246 246 :=λ_ _ _=>.mk _
def P247 : Pl :=(.n none .z (.n none .z (.n none .z (.n none .z (.n (some [10,8]) .z .z)))))
def S247 : tE3 Tryz.prog P247 247 :=λ_ _ _ _ _=>.mk _
def P248 : Pl :=(.n none .z (.n none .z (.n none .z (.n none (.n none (.r [[22,20,6,1,0],[33,24,6,1,0]]) .z) .z))))
def S248 : tE2 Tryz.prog P248 248 :=λ_ _ _ _=>.mk _
def P249 : Pl :=.z
def S249 : tE2 Tryz.prog P249 249 :=λ_ _ _ _=>.mk _
def P250 : Pl :=.z
def S250 : tE1 Tryz.prog P250 250 :=λ_ _ _=>.mk _
def P251 : Pl :=.z
def S251 : tE1 Tryz.prog P251 251 :=λ_ _ _=>.mk _
def P252 : Pl :=(.n none .z (.n none .z (.n none .z (.n none .z (.n none .z (.n none (.r [[2]]) .z))))))
def S252 : tE1 Tryz.prog P252 252 :=λ_ _ _=>.mk _
def P253 : Pl :=.z
def S253 : tE2 Tryz.prog P253 253 :=λ_ _ _ _=>.mk _
def P254 : Pl :=.z
def S254 : tE1 Tryz.prog P254 254 :=λ_ _ _=>.mk _
def P255 : Pl :=(.n none .z (.n none .z (.n none (.n none .z (.n none (.n (some [15,14,13,3]) .z .z) .z)) .z)))
def S255 : tE1 Tryz.prog P255 255 :=λ_ _ _=>.mk _
def P256 : Pl :=(.n none .z (.n none (.n none .z (.n none (.n (some [8,7,1,0]) .z .z) .z)) .z))
def S256 : tE2 Tryz.prog P256 256 :=λ_ _ _ _=>.mk _
def P257 : Pl :=.z
def S257 : tE2 Tryz.prog P257 257 :=λ_ _ _ _=>.mk _
def P260 : Pl :=.z
def S260 : tE1 Tryz.prog P260 260 :=λ_ _ _=>.mk _
def P264 : Pl :=.z
def S264 : tE1 Tryz.prog P264 264 :=λ_ _ _=>.mk _
def P265 : Pl :=.z
def S265 : tE1 Tryz.prog P265 265 :=λ_ _ _=>.mk _
def P266 : Pl :=(.n none .z (.n none .z (.n none (.n none .z (.n none (.n (some [14,13,12,3,0]) .z .z) .z)) (.n none (.n none .z (.n none (.n (some [28,27,26,3]) .z .z) .z)) .z))))
def S266 : tE1 Tryz.prog P266 266 :=λ_ _ _=>.mk _
def P267 : Pl :=.z
def S267 : tE1 Tryz.prog P267 267 :=λ_ _ _=>.mk _
def P268 : Pl :=(.n none .z (.n none .z (.n (some [0]) .z .z)))
def S268 : tE1 Tryz.prog P268 268 :=λ_ _ _=>.mk _
def P269 : Pl :=.z
def S269 : tE2 Tryz.prog P269 269 :=λ_ _ _ _=>.mk _
def P270 : Pl :=.z
def S270 : tE2 Tryz.prog P270 270 :=λ_ _ _ _=>.mk _
def P271 : Pl :=.z
def S271 : tE2 Tryz.prog P271 271 :=λ_ _ _ _=>.mk _
def P272 : Pl :=(.n none .z (.n none (.n (some [11,10,1,0]) (.n none .z (.n none .z (.n none (.n none (.n none .z (.n none .z (.n none (.n (some [11,10,5,1,0]) (.n none (.n none (.r [[32,27,11,10,5,1,0]]) .z) .z) .z) .z))) .z) .z))) .z) .z))
def S272 : tE2 Tryz.prog P272 272 :=λ_ _ _ _=>.mk _
def P273 : Pl :=(.n none (.r [[5,3,1,0]]) .z)
def S273 : tE4 Tryz.prog P273 273 :=λ_ _ _ _ _ _=>.mk _
def P274 : Pl :=(.n none .z (.n (some [5,4,2,0]) .z (.n none .z (.n none .z (.n none .z (.n (some [6,4,0]) .z .z))))))
def S274 : tE3 Tryz.prog P274 274 :=λ_ _ _ _ _=>.mk _
def P275 : Pl :=.z
def S275 : tE4 Tryz.prog P275 275 :=λ_ _ _ _ _ _=>.mk _
def P276 : Pl :=(.n none .z (.n none .z (.n none .z (.n none (.r [[6]]) .z))))
def S276 : tE3 Tryz.prog P276 276 :=λ_ _ _ _ _=>.mk _
def P277 : Pl :=(.n none .z (.r [[]]))
def S277 : tE4 Tryz.prog P277 277 :=λ_ _ _ _ _ _=>.mk _
def P278 : Pl :=(.n none .z (.n none (.r [[16,7]]) .z))
def S278 : tE2 Tryz.prog P278 278 :=λ_ _ _ _=>.mk _
def P279 : Pl :=(.n none .z (.n (some [5,0]) (.n none .z (.n none (.r [[5,0]]) .z)) .z))
def S279 : tE3 Tryz.prog P279 279 :=λ_ _ _ _ _=>.mk _
def P280 : Pl :=.z
def S280 : tE3 Tryz.prog P280 280 :=λ_ _ _ _ _=>.mk _
def P281 : Pl :=(.n none .z (.n none .z (.n none .z (.n none (.n (some [1]) (.n (some [1,0]) .z .z) .z) .z))))
def S281 : tE2 Tryz.prog P281 281 :=λ_ _ _ _=>.mk _
def P282 : Pl :=(.n none (.n (some [0]) (.n none (.n none (.r [[16,11,0]]) .z) (.n (some [0]) (.n none .z (.n none .z (.n none .z (.n none .z (.n none (.n none (.r [[90,85,4,3,2,0]]) .z) .z))))) .z)) .z) .z)
def S282 : tE1 Tryz.prog P282 282 :=λ_ _ _=>.mk _
def P283 : Pl :=(.n none .z (.n none (.n none (.r [[7,5,0]]) .z) .z))
def S283 : tE1 Tryz.prog P283 283 :=λ_ _ _=>.mk _
def P284 : Pl :=.z
def S284 : tE2 Tryz.prog P284 284 :=λ_ _ _ _=>.mk _
def P285 : Pl :=(.n none .z (.n none .z (.n none (.r [[]]) .z)))
def S285 : tE1 Tryz.prog P285 285 :=λ_ _ _=>.mk _
def P286 : Pl :=.z
def S286 : tE1 Tryz.prog P286 286 :=λ_ _ _=>.mk _
def P288 : Pl :=(.n none .z (.n none .z (.n none (.n none .z (.n none (.n (some [11,10,9,3]) .z .z) .z)) .z)))
def S288 : tE1 Tryz.prog P288 288 :=λ_ _ _=>.mk _
def P289 : Pl :=.z
def S289 : tE2 Tryz.prog P289 289 :=λ_ _ _ _=>.mk _
def P290 : Pl :=.z
def S290 : tE3 Tryz.prog P290 290 :=λ_ _ _ _ _=>.mk _
def P291 : Pl :=(.n none .z (.n (some [4,2,0]) .z .z))
def S291 : tE3 Tryz.prog P291 291 :=λ_ _ _ _ _=>.mk _
def P314 : Pl :=.z
def S314 : tE1 Tryz.prog P314 314 :=λ_ _ _=>.mk _
def P315 : Pl :=.z
def S315 : tE1 Tryz.prog P315 315 :=λ_ _ _=>.mk _
def P316 : Pl :=(.n none .z (.n (some []) (.n none .z (.n none .z (.n none .z (.n none .z (.n none (.r [[41,34,3,0]]) .z))))) .z))
def S316 (c : CV) (a0 a1 : AV) (h : AH) : R :=
vq h 48 a1 λv0 h1=>
zb (α :=Unit→AH→List Nat→R) (λ_ h3 d4=>
zS d4 h3 λh6=>
some ((.tup []),h6)) λj5=>
z7 a0 λv7=>
ql v7 0 λv8=>
jt h1 v0 6 λv9=>
jF c (.fn 318 [] []) [v8,v9] h1 λv10 h11=>
zW v10 (
j5 (()) h11 []) (
z7 a0 λv12=>
ql v12 8 λv13=>
jJ h11 v13 λv14=>
jD .eql v14 (iI 1) λv15=>
zW v15 (
ql v0 0 λv16=>
jJ h11 v16 λv17=>
z7 a0 λv18=>
ql v18 12 λv19=>
jv h11 v19 v17 1 λh20=>
z7 a0 λv21=>
ql v21 8 λv22=>
jv h20 v22 (iI 2) 1 λh23=>
j5 (()) h23 []) (
z7 a0 λv24=>
ql v24 8 λv25=>
jJ h11 v25 λv26=>
jD .eql v26 (iI 2) λv27=>
zb (α :=AV×AV×AV×AV×Unit→AH→R) (λs28 h29=>
xh s28.2.1 s28.1 (.bool false) λv31=>
zW v31 (
z7 s28.2.2.2.1 λv32=>
ql v32 0 λv33=>
jF c (.fn 319 [] []) [v33,(iI 2),(iI 0),(.int .i64 (.negSucc 0))] h29 λ_ h35=>
j5 (()) h35 []) (
ql s28.2.2.1 1 λv36=>
jt h29 v36 3 λv37=>
jF c (.fn 320 [] []) [s28.2.2.2.1,v37] h29 λ_ h39=>
j5 (()) h39 [])) λj30=>
xi v27 true (
ql v0 1 λv40=>
jt h11 v40 3 λv41=>
z7 a0 λv42=>
ql v42 9 λv43=>
jt h11 v43 3 λv44=>
XQ [.bas .int 0,.bas .bool 1,.bas .int 2] false v41 v44 λv45=>
j30 (v45,v27,v0,a0,()) h11) (
j30 (.undef,v27,v0,a0,()) h11)))
def W316 : WF :=w_2 S316
theorem W316_ok : WOk Tryz.prog 316 W316 :=Nt (pl :=P316) λ_ _ _ _=>by kernel_rfl
def P317 : Pl :=.z
def S317 : tE1 Tryz.prog P317 317 :=λ_ _ _=>.mk _
def P318 : Pl :=(.n none .z (.n (some [0]) (.n none (.r [[13,10,3,0]]) .z) .z))
def S318 : tE2 Tryz.prog P318 318 :=λ_ _ _ _=>.mk _
def P319 : Pl :=.z
def S319 : tE4 Tryz.prog P319 319 :=λ_ _ _ _ _ _=>.mk _
def P320 : Pl :=(.n none .z (.n none .z (.n (some []) .z .z)))
def S320 : tE2 Tryz.prog P320 320 :=λ_ _ _ _=>.mk _
def P321 : Pl :=.z
def S321 : tE2 Tryz.prog P321 321 :=λ_ _ _ _=>.mk _
def P322 : Pl :=.z
def S322 : tE1 Tryz.prog P322 322 :=λ_ _ _=>.mk _
def P323 : Pl :=.z
def S323 : tE1 Tryz.prog P323 323 :=λ_ _ _=>.mk _
def P324 : Pl :=(.n none .z (.n none (.n (some [0]) (.n none .z (.n none .z (.n none .z (.n none (.r [[0]]) (.n none .z (.n none (.n (some []) .z .z) .z)))))) .z) .z))
def S324 : tE2 Tryz.prog P324 324 :=λ_ _ _ _=>.mk _
def P325 : Pl :=.z
def S325 : tE1 Tryz.prog P325 325 :=λ_ _ _=>.mk _
def P326 : Pl :=.z
def S326 : tE1 Tryz.prog P326 326 :=λ_ _ _=>.mk _
def P327 : Pl :=(.n none .z (.n none .z (.n none .z (.n (some []) (.n (some [13,12,3,0]) .z (.n none .z (.n (some [19,12,3,0]) .z .z))) .z))))
def S327 : tE2 Tryz.prog P327 327 :=λ_ _ _ _=>.mk _
def P328 : Pl :=.z
def S328 : tE1 Tryz.prog P328 328 :=λ_ _ _=>.mk _
def P329 : Pl :=(.n none .z (.n (some []) (.n none (.r [[16,13,3,0]]) .z) .z))
def S329 : tE2 Tryz.prog P329 329 :=λ_ _ _ _=>.mk _
def P330 : Pl :=(.n none .z (.n (some []) (.n none (.r [[15,12,3,0]]) .z) .z))
def S330 : tE2 Tryz.prog P330 330 :=λ_ _ _ _=>.mk _
def P331 : Pl :=(.n none .z (.n (some []) .z .z))
def S331 : tE2 Tryz.prog P331 331 :=λ_ _ _ _=>.mk _
def P332 : Pl :=.z
def S332 : tE1 Tryz.prog P332 332 :=λ_ _ _=>.mk _
def P333 : Pl :=.z
def S333 : tE1 Tryz.prog P333 333 :=λ_ _ _=>.mk _
def P334 : Pl :=.z
def S334 : tE1 Tryz.prog P334 334 :=λ_ _ _=>.mk _
def P335 : Pl :=.z
def S335 : tE2 Tryz.prog P335 335 :=λ_ _ _ _=>.mk _
def P336 : Pl :=.z
def S336 : tE4 Tryz.prog P336 336 :=λ_ _ _ _ _ _=>.mk _
def P337 : Pl :=(.n none (.n none .z (.n none (.n (some [0]) .z .z) .z)) .z)
def S337 : tE1 Tryz.prog P337 337 :=λ_ _ _=>.mk _
def Q0 : Pl :=(.n none .z .z)
def B0 (c : CV) (l : Nat) (v0 _ a1 : AV) (h : AH) : R :=
QX h l λh100=>
jF c (.fn 124 [] []) [(iI 96)] h100 λv101 h102=>
z7 a1 λv103=>
ql v103 0 λv104=>
jJ h102 v104 λv105=>
jF c (.fn 126 [] []) [v105] h102 λv106 h107=>
jF c (.fn 125 [] []) [v101,v106] h107 λ_ h109=>
jJ h109 v0 λv110=>
jF c (.fn 125 [] []) [v101,v110] h109 λ_ h112=>
jF c (.fn 126 [] []) [v101] h112 λv113 h114=>
jv h114 v0 v113 1 λh115=>
xW h115 l none
theorem B0_eq (c : CV) (l : Nat) (v0 a0 a1 : AV) (h : AH) : G0 Tryz.prog NN Q0 c 94 [1,1,0,1,0] [3] l [v0] [a0,a1] h=B0 c l v0 a0 a1 h :=by kernel_rfl
def V0 (c : CV) (l : Nat) (x y : List AV) (h : AH) : R :=match x,y with |[v0],[a0,a1]=>B0 c l v0 a0 a1 h |_,_=>none
theorem V0_ok : VOk Tryz.prog 94 [1,1,0,1,0] [3] V0 :=by
 intro c l x y h r e
 unfold V0 at e
 split at e
 ·exact⟨Q0,by rw[B0_eq];exact e⟩
 ·cases e
def Q1 : Pl :=(.n none .z .z)
def B1 (c : CV) (l : Nat) (v0 v1 v2 _ a1 : AV) (h : AH) : R :=
QX h l λh100=>
z7 a1 λv101=>
ql v101 0 λv102=>
jJ h100 v102 λv103=>
jJ h100 v2 λv104=>
jF c (.fn 192 [] []) [v103,v104] h100 λv105 h106=>
ji v105 0 λv107=>
ji v105 1 λv108=>
zW v108 (
jv h106 v1 v107 1 λh109=>
jv h109 v0 (.bool true) 1 λh110=>
xW h110 l (some .ret)) (
xW h106 l none)
theorem B1_eq (c : CV) (l : Nat) (v0 v1 v2 a0 a1 : AV) (h : AH) : G0 Tryz.prog NN Q1 c 151 [1,0,1,0] [5,4,3] l [v0,v1,v2] [a0,a1] h=B1 c l v0 v1 v2 a0 a1 h :=by kernel_rfl
def V1 (c : CV) (l : Nat) (x y : List AV) (h : AH) : R :=match x,y with |[v0,v1,v2],[a0,a1]=>B1 c l v0 v1 v2 a0 a1 h |_,_=>none
theorem V1_ok : VOk Tryz.prog 151 [1,0,1,0] [5,4,3] V1 :=by
 intro c l x y h r e
 unfold V1 at e
 split at e
 ·exact⟨Q1,by rw[B1_eq];exact e⟩
 ·cases e
end
end Go.Proofs.YtbiljkdgeekpbabGreatDoor
