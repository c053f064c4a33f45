/- Printed by a program of mine: the bodies of the program's functions aa terms of the primitives of the abstract executor, each shown equal by the kernel. -/
import Derived.Test.YtefichdddddacaaGreatDoorProg
import Derived.Test.YtefichdddddacaaGreatDoorTopAgainAe1
import Derived.KernelRfl
namespace Go.Proofs.YtefichdddddacaaGreatDoor
open Go Go.Ae
abbrev rN : Type :=AV×AV×AV×AV×AV×AV×AV×AV×AV×Unit
set_option maxRecDepth 100000
noncomputable section
attribute [local irreducible] zH vp gG xE qp Gw YB vG kU Yj Yx gP jj zi jP jb wm Vj ml GF pQ vM X9 Xd AG gJ yX gT xh Qx xq kl JA nq gc yR yZ Qv yN vC Z8 Up OB AJ Zg O8 ju yj J9 Ys Jr xL vY uO Xl Nb zl xd Xi AV.undef
set_option maxHeartbeats 40000000
def P182 : Pl :=(.n none .z (.n none (.n none .z (.n none (.n (some [7,6,3,0]) .z (.n none .z (.n (some [18,6,0]) .z .z))) .z)) .z))
def S182 : bE Tryz.prog P182 182 :=λ_ _ _ _=>.mk _
def P183 : Pl :=.z
def S183 : aU Tryz.prog P183 183 :=λ_ _ _=>.mk _
def P184 : Pl :=(.n none .z (.n none (.n none (.n none (.r [[9,7,0]]) (.n none .z (.n none (.r [[18,16,0]]) .z))) .z) .z))
def S184 : aU Tryz.prog P184 184 :=λ_ _ _=>.mk _
def P185 : Pl :=(.n none .z (.n none (.r [[14,7]]) .z))
def S185 : bE Tryz.prog P185 185 :=λ_ _ _ _=>.mk _
def P186 : Pl :=(.n none .z (.n none (.n none .z (.n none (.n (some [5,4,3]) .z .z) .z)) .z))
def S186 (c : CV) (a0 a1 : AV) (h : AH) : R :=
gc h 3 a1 λv0 h1=>
gc h1 31 (uU 0) λv2 h3=>
gc h3 4 (.bool false) λv4 h5=>
xE a0 λv6=>
qp v6 1 λv7=>
jj h5 v7 λv8=>
ju c (.fn 155 [] []) [v8] h5 λv9 dR=>
J9 c v9 [.yield (dR.new .hZ).nx] ((dR.new .hZ).new (.loop .ready none 186 [1,0,1,0] [5,4,3] [v4,v2,v0] dR.nx)) λ_ cD=>
vY cD (dR.new .hZ).nx λPb la=>
Xl Pb (
jP la v2 (uU 0) 1 λrJ=>
jP rJ v4 (.bool false) 1 λoh=>
zl (dR.nx::[]) oh λrb=>
jj rb v2 λnN=>
jj rb v4 λmg=>
some ((.bM [nN,mg]),rb))<|
uO Pb .ret (
zl (dR.nx::[]) la λBY=>
jj BY v2 λv20=>
jj BY v4 λv21=>
some ((.bM [v20,v21]),BY))<|
none
def W186 : WF :=AP S186
theorem W186_ok : fc Tryz.prog 186 W186 :=Ej (pl :=P186) λ_ _ _ _=>by kernel_rfl
def P187 : Pl :=(.n none .z (.n none .z (.n none .z (.n none (.n none .z (.n none (.n (some [20,19,18,5,0]) .z .z) .z)) .z))))
def S187 : bE Tryz.prog P187 187 :=λ_ _ _ _=>.mk _
def P188 : Pl :=(.n none .z (.n none (.n (some [3,1,0]) .z .z) .z))
def S188 : bE Tryz.prog P188 188 :=λ_ _ _ _=>.mk _
def P189 : Pl :=(.n none .z (.n none (.n none (.r [[12,10,2,1,0]]) .z) .z))
def S189 : cQ Tryz.prog P189 189 :=λ_ _ _ _ _=>.mk _
def P192 : Pl :=(.n none .z (.n none (.n none .z (.n none (.n (some [13,12,11,1]) .z .z) .z)) .z))
def S192 : bE Tryz.prog P192 192 :=λ_ _ _ _=>.mk _
def P193 : Pl :=.z
def S193 : bE Tryz.prog P193 193 :=λ_ _ _ _=>.mk _
def P196 : Pl :=(.n none .z (.n none .z (.n none (.n none .z (.n (some [4,3,2]) (.n (some [8,7,5,4,3,2]) .z (.n none .z (.n (some [13,7,5,4,3,2]) .z (.n none (.r [[4,3,2]]) (.n (some [18,7,5,4,3,2]) .z (.n none (.r [[4,3,2]]) (.n (some [27,7,5,4,3,2]) .z (.n none (.r [[4,3,2]]) .z)))))))) .z)) (.n none (.r [[4,3,2]]) .z))))
def S196 : aU Tryz.prog P196 196 :=λ_ _ _=>.mk _
def P197 : Pl :=.z
def S197 : aU Tryz.prog P197 197 :=λ_ _ _=>.mk _
def P198 : Pl :=(.n none .z (.n none (.r [[13,9]]) .z))
def S198 : bE Tryz.prog P198 198 :=λ_ _ _ _=>.mk _
def P199 : Pl :=.z
def S199 : bE Tryz.prog P199 199 :=λ_ _ _ _=>.mk _
def P200 : Pl :=.z
def S200 : bE Tryz.prog P200 200 :=λ_ _ _ _=>.mk _
def P205 : Pl :=.z
def S205 : bE Tryz.prog P205 205 :=λ_ _ _ _=>.mk _
def P208 : Pl :=.z
def S208 : cQ Tryz.prog P208 208 :=λ_ _ _ _ _=>.mk _
def P209 : Pl :=(.n none .z (.n none .z (.n none (.n none (.r [[24,22,9,8,7,4,0]]) .z) .z)))
def S209 : cQ Tryz.prog P209 209 :=λ_ _ _ _ _=>.mk _
def P214 : Pl :=(.n none .z (.n none (.n none (.r [[13,8,1,0],[20,15,1,0]]) .z) .z))
def S214 : bE Tryz.prog P214 214 :=λ_ _ _ _=>.mk _
def P215 : Pl :=.z
def S215 : cQ Tryz.prog P215 215 :=λ_ _ _ _ _=>.mk _
def P216 : Pl :=.z
def S216 : bE Tryz.prog P216 216 :=λ_ _ _ _=>.mk _
def P217 : Pl :=(.n none .z (.n none .z (.n (some [7,5,1,0]) (.n none (.r [[19,17,7,5,1,0]]) .z) (.n (some [7,1,0]) .z (.n (some [7]) .z .z)))))
def S217 : bE Tryz.prog P217 217 :=λ_ _ _ _=>.mk _
def P218 : Pl :=(.n none .z (.n none .z (.n none (.r [[]]) .z)))
def S218 : cQ Tryz.prog P218 218 :=λ_ _ _ _ _=>.mk _
def P219 : Pl :=.z
def S219 : aU Tryz.prog P219 219 :=λ_ _ _=>.mk _
def P220 : Pl :=.z
def S220 : aU Tryz.prog P220 220 :=λ_ _ _=>.mk _
def P221 : Pl :=.z
def S221 : bE Tryz.prog P221 221 :=λ_ _ _ _=>.mk _
def P222 : Pl :=.z
def S222 : aU Tryz.prog P222 222 :=λ_ _ _=>.mk _
def P223 : Pl :=(.n none .z (.n none (.n none (.n (some [0]) .z .z) .z) .z))
def S223 : aU Tryz.prog P223 223 :=λ_ _ _=>.mk _
def P224 : Pl :=.z
def S224 : bE Tryz.prog P224 224 :=λ_ _ _ _=>.mk _
def P225 : Pl :=.z
def S225 : aU Tryz.prog P225 225 :=λ_ _ _=>.mk _
def P226 : Pl :=(.n none .z (.n none (.n none (.r [[14,12,2,1,0]]) .z) (.n none .z (.n none (.n none .z (.n none (.r [[32,29,7,2,1]]) .z)) .z))))
def S226 : cQ Tryz.prog P226 226 :=λ_ _ _ _ _=>.mk _
def P227 : Pl :=.z
def S227 : bE Tryz.prog P227 227 :=λ_ _ _ _=>.mk _
def P239 : Pl :=.z
def S239 (_ : CV) (a0 : AV) (h : AH) : R :=
jb .lss a0 (iI 10) λv0=>
zH v0 (
jb .add a0 (iI 1) λv1=>
gJ (.str [48,49,50,51,52,53,54,55,56,57,97,98,99,100,101,102,103,104,105,106,107,108,109,110,111,112,113,114,115,116,117,118,119,120,121,122]) (some a0) (some v1) λv2=>
some (v2,h)) (
jb .mul a0 (iI 2) λv3=>
jb .mul a0 (iI 2) λv4=>
jb .add v4 (iI 2) λv5=>
gJ (.str [48,48,48,49,48,50,48,51,48,52,48,53,48,54,48,55,48,56,48,57,49,48,49,49,49,50,49,51,49,52,49,53,49,54,49,55,49,56,49,57,50,48,50,49,50,50,50,51,50,52,50,53,50,54,50,55,50,56,50,57,51,48,51,49,51,50,51,51,51,52,51,53,51,54,51,55,51,56,51,57,52,48,52,49,52,50,52,51,52,52,52,53,52,54,52,55,52,56,52,57,53,48,53,49,53,50,53,51,53,52,53,53,53,54,53,55,53,56,53,57,54,48,54,49,54,50,54,51,54,52,54,53,54,54,54,55,54,56,54,57,55,48,55,49,55,50,55,51,55,52,55,53,55,54,55,55,55,56,55,57,56,48,56,49,56,50,56,51,56,52,56,53,56,54,56,55,56,56,56,57,57,48,57,49,57,50,57,51,57,52,57,53,57,54,57,55,57,56,57,57]) (some v3) (some v5) λv6=>
some (v6,h))
def W239 : WF :=sj S239
theorem W239_ok : fc Tryz.prog 239 W239 :=Gc (pl :=P239) λ_ _ _=>by kernel_rfl
def P245 : Pl :=(.n none .z (.n none (.n none (.r [[11,7,1,0]]) .z) .z))
def S245 : bE Tryz.prog P245 245 :=λ_ _ _ _=>.mk _
def P246 : Pl :=.z
def S246 (_ : CV) (h : AH) : R :=
yZ h 9 [(.str [])] 24 [(0,1,(.str [])),(1,1,(.str [115,101,116])),(2,1,(.str [109,111,118,101])),(3,1,(.str [97,100,100])),(4,1,(.str [115,117,98])),(5,1,(.str [109,117,108])),(6,1,(.str [108,101,115,115])),(7,1,(.str [101,113,117,97,108])),(8,1,(.str [108,111,97,100])),(9,1,(.str [115,116,111,114,101])),(10,1,(.str [97,108,108,111,99])),(11,1,(.str [102,114,101,101])),(12,1,(.str [106,117,109,112])),(13,1,(.str [122,101,114,111])),(14,1,(.str [111,112,101,110])),(15,1,(.str [99,108,111,115,101])),(16,1,(.str [117,110,100,111])),(17,1,(.str [101,105,116,104,101,114])),(18,1,(.str [111,114])),(19,1,(.str [100,111,110,101])),(20,1,(.str [114,101,116,114,121])),(21,1,(.str [101,109,105,116])),(22,1,(.str [102,97,105,108])),(23,1,(.str [99,97,108,108]))] λv0 h1=>
some (v0,h1)
def W246 : WF :=Dh S246
theorem W246_ok : fc Tryz.prog 246 W246 :=IH (pl :=P246) λ_ _=>by kernel_rfl
def P247 : Pl :=(.n none .z (.n none .z (.n none .z (.n none (.r [[]]) .z))))
def S247 : ij Tryz.prog P247 247 :=λ_ _ _ _ _ _=>.mk _
def P248 : Pl :=.z
def S248 : bE Tryz.prog P248 248 :=λ_ _ _ _=>.mk _
def P266 : Pl :=(.n none .z (.n none .z (.n none (.n none (.r [[20,13,4,3,1,0],[25,22,4,3,0],[31,25,22,4,3,0],[32,22,4,3,0]]) .z) .z)))
def S266 : ot Tryz.prog P266 266 :=λ_ _ _ _ _ _ _=>.mk _
def P267 : Pl :=.z
def S267 : aU Tryz.prog P267 267 :=λ_ _ _=>.mk _
def P282 : Pl :=(.n none .z (.n none .z (.n none .z (.n none .z (.n (some [10,8]) .z .z)))))
def S282 : cQ Tryz.prog P282 282 :=λ_ _ _ _ _=>.mk _
def P283 : Pl :=(.n none .z (.n none .z (.n none .z (.n none (.n none (.r [[22,20,6,1,0],[33,24,6,1,0]]) .z) .z))))
def S283 : bE Tryz.prog P283 283 :=λ_ _ _ _=>.mk _
def P284 : Pl :=.z
def S284 : bE Tryz.prog P284 284 :=λ_ _ _ _=>.mk _
def P285 : Pl :=.z
def S285 : aU Tryz.prog P285 285 :=λ_ _ _=>.mk _
def P286 : Pl :=.z
def S286 : aU Tryz.prog P286 286 :=λ_ _ _=>.mk _
def P287 : Pl :=(.n none .z (.n none .z (.n none .z (.n none .z (.n none .z (.n none (.r [[2]]) .z))))))
def S287 : aU Tryz.prog P287 287 :=λ_ _ _=>.mk _
def P288 : Pl :=.z
def S288 : bE Tryz.prog P288 288 :=λ_ _ _ _=>.mk _
def P289 : Pl :=.z
def S289 : aU Tryz.prog P289 289 :=λ_ _ _=>.mk _
def P290 : Pl :=(.n none .z (.n none .z (.n none (.n none .z (.n none (.n (some [15,14,13,3]) .z .z) .z)) .z)))
def S290 : aU Tryz.prog P290 290 :=λ_ _ _=>.mk _
def P291 : Pl :=(.n none .z (.n none (.n none .z (.n none (.n (some [8,7,1,0]) .z .z) .z)) .z))
def S291 : bE Tryz.prog P291 291 :=λ_ _ _ _=>.mk _
def P292 : Pl :=.z
def S292 : bE Tryz.prog P292 292 :=λ_ _ _ _=>.mk _
def P319 : Pl :=.z
def S319 : bE Tryz.prog P319 319 :=λ_ _ _ _=>.mk _
def P320 : Pl :=(.n none .z (.n none .z (.n none (.r [[]]) .z)))
def S320 : aU Tryz.prog P320 320 :=λ_ _ _=>.mk _
def P321 : Pl :=.z
def S321 : aU Tryz.prog P321 321 :=λ_ _ _=>.mk _
def P351 : Pl :=.z
def S351 : aU Tryz.prog P351 351 :=λ_ _ _=>.mk _
def P352 : Pl :=.z
def S352 : aU Tryz.prog P352 352 :=λ_ _ _=>.mk _
def P353 : Pl :=(.n none .z (.n (some []) (.n none .z (.n none .z (.n none .z (.n none .z (.n none (.r [[41,34,3,0]]) .z))))) .z))
def S353 (c : CV) (a0 a1 : AV) (h : AH) : R :=
gc h 69 a1 λv0 h1=>
xd (α :=Unit→AH→List Nat→R) (λ_ h3 d4=>
zl d4 h3 λh6=>
some ((.bM []),h6)) λj5=>
xE a0 λv7=>
qp v7 0 λv8=>
zi h1 v0 6 λv9=>
ju c (.fn 355 [] []) [v8,v9] h1 λv10 cD=>
zH v10 (
j5 (()) cD []) (
xE a0 λv12=>
qp v12 8 λph=>
jj cD ph λrM=>
jb .eql rM (iI 1) λpg=>
zH pg (
qp v0 0 λpj=>
jj cD pj λnN=>
xE a0 λmg=>
qp mg 12 λoe=>
jP cD oe nN 1 λnM=>
xE a0 λv21=>
qp v21 8 λv22=>
jP nM v22 (iI 2) 1 λAg=>
j5 (()) Ag []) (
xE a0 λv24=>
qp v24 8 λol=>
jj cD ol λrK=>
jb .eql rK (iI 2) λuh=>
xd (α :=AV×AV×AV×AV×Unit→AH→R) (λB3 ra=>
gG B3.2.1 B3.1 (.bool false) λv31=>
zH v31 (
xE B3.2.2.2.1 λrI=>
qp rI 0 λrL=>
ju c (.fn 356 [] []) [rL,(iI 2),(iI 0),(.int .i64 (.negSucc 0))] ra λ_ FQ=>
j5 (()) FQ []) (
qp B3.2.2.1 1 λp8=>
zi ra p8 3 λv37=>
ju c (.fn 357 [] []) [B3.2.2.2.1,v37] ra λ_ h39=>
j5 (()) h39 [])) λj30=>
vp uh true (
qp v0 1 λv40=>
zi cD v40 3 λAf=>
xE a0 λAh=>
qp Ah 9 λuj=>
zi cD uj 3 λug=>
GF [.lD .int 0,.lD .bool 1,.lD .int 2] false Af ug λBX=>
j30 (BX,uh,v0,a0,()) cD) (
j30 (.undef,uh,v0,a0,()) cD)))
def W353 : WF :=AP S353
theorem W353_ok : fc Tryz.prog 353 W353 :=Ej (pl :=P353) λ_ _ _ _=>by kernel_rfl
def P354 : Pl :=.z
def S354 : aU Tryz.prog P354 354 :=λ_ _ _=>.mk _
def P355 : Pl :=(.n none .z (.n (some [0]) (.n none (.r [[13,10,3,0]]) .z) .z))
def S355 : bE Tryz.prog P355 355 :=λ_ _ _ _=>.mk _
def P356 : Pl :=.z
def S356 : ij Tryz.prog P356 356 :=λ_ _ _ _ _ _=>.mk _
def P357 : Pl :=(.n none .z (.n none .z (.n (some []) .z .z)))
def S357 : bE Tryz.prog P357 357 :=λ_ _ _ _=>.mk _
def P358 : Pl :=.z
def S358 : bE Tryz.prog P358 358 :=λ_ _ _ _=>.mk _
def P359 : Pl :=.z
def S359 : aU Tryz.prog P359 359 :=λ_ _ _=>.mk _
def P360 : Pl :=.z
def S360 : aU Tryz.prog P360 360 :=λ_ _ _=>.mk _
def P361 : Pl :=(.n none .z (.n none (.n (some [0]) (.n none .z (.n none .z (.n none .z (.n none (.r [[0]]) (.n none .z (.n none (.n (some []) .z .z) .z)))))) .z) .z))
def S361 : bE Tryz.prog P361 361 :=λ_ _ _ _=>.mk _
def P362 : Pl :=.z
def S362 : aU Tryz.prog P362 362 :=λ_ _ _=>.mk _
def P363 : Pl :=.z
def S363 : aU Tryz.prog P363 363 :=λ_ _ _=>.mk _
def P364 : Pl :=(.n none .z (.n none .z (.n none .z (.n (some []) (.n (some [13,12,3,0]) .z (.n none .z (.n (some [19,12,3,0]) .z .z))) .z))))
def S364 : bE Tryz.prog P364 364 :=λ_ _ _ _=>.mk _
def P365 : Pl :=.z
def S365 : aU Tryz.prog P365 365 :=λ_ _ _=>.mk _
def P366 : Pl :=(.n none .z (.n (some []) (.n none (.r [[16,13,3,0]]) .z) .z))
def S366 : bE Tryz.prog P366 366 :=λ_ _ _ _=>.mk _
def P367 : Pl :=(.n none .z (.n (some []) (.n none (.r [[15,12,3,0]]) .z) .z))
def S367 : bE Tryz.prog P367 367 :=λ_ _ _ _=>.mk _
def P368 : Pl :=(.n none .z (.n (some []) .z .z))
def S368 : bE Tryz.prog P368 368 :=λ_ _ _ _=>.mk _
def P369 : Pl :=.z
def S369 : aU Tryz.prog P369 369 :=λ_ _ _=>.mk _
def P370 : Pl :=.z
def S370 : aU Tryz.prog P370 370 :=λ_ _ _=>.mk _
def P371 : Pl :=.z
def S371 : aU Tryz.prog P371 371 :=λ_ _ _=>.mk _
def P372 : Pl :=.z
def S372 : bE Tryz.prog P372 372 :=λ_ _ _ _=>.mk _
def P373 : Pl :=.z
def S373 : ij Tryz.prog P373 373 :=λ_ _ _ _ _ _=>.mk _
def P374 : Pl :=(.n none (.n none .z (.n none (.n (some [0]) .z .z) .z)) .z)
def S374 : aU Tryz.prog P374 374 :=λ_ _ _=>.mk _
def Q0 : Pl :=(.n none .z .z)
def B0 (c : CV) (l : Nat) (v0 _ a1 : AV) (h : AH) : R :=
Jr h l λpn=>
ju c (.fn 156 [] []) [(iI 96)] pn λpo B4=>
xE a1 λul=>
qp ul 0 λum=>
jj B4 um λv105=>
ju c (.fn 158 [] []) [v105] B4 λFR FT=>
ju c (.fn 157 [] []) [po,FR] FT λ_ rP=>
jj rP v0 λFU=>
ju c (.fn 157 [] []) [po,FU] rP λ_ FV=>
ju c (.fn 158 [] []) [po] FV λFX FY=>
jP FY v0 FX 1 λFZ=>
xL FZ l none
theorem B0_eq (c : CV) (l : Nat) (v0 a0 a1 : AV) (h : AH) : VW Tryz.prog NN Q0 c 128 [1,1,0,1,0] [3] l [v0] [a0,a1] h=B0 c l v0 a0 a1 h :=by kernel_rfl
def V0 (c : CV) (l : Nat) (x y : List AV) (h : AH) : R :=match x,y with |[v0],[a0,a1]=>B0 c l v0 a0 a1 h |_,_=>none
theorem V0_ok : AO Tryz.prog 128 [1,1,0,1,0] [3] V0 :=by
 intro c l x y h r e
 unfold V0 at e
 split at e
 ·exact⟨Q0,by rw[B0_eq];exact e⟩
 ·cases e
def Q1 : Pl :=(.n none .z .z)
def B1 (c : CV) (l : Nat) (v0 v1 v2 _ a1 : AV) (h : AH) : R :=
Jr h l λpn=>
xE a1 λpo=>
qp po 0 λF3=>
jj pn F3 λul=>
jj pn v2 λum=>
ju c (.fn 224 [] []) [ul,um] pn λv105 B5=>
xq v105 0 λv107=>
xq v105 1 λF4=>
zH F4 (
jP B5 v1 v107 1 λrP=>
jP rP v0 (.bool true) 1 λF5=>
xL F5 l (some .ret)) (
xL B5 l none)
theorem B1_eq (c : CV) (l : Nat) (v0 v1 v2 a0 a1 : AV) (h : AH) : VW Tryz.prog NN Q1 c 186 [1,0,1,0] [5,4,3] l [v0,v1,v2] [a0,a1] h=B1 c l v0 v1 v2 a0 a1 h :=by kernel_rfl
def V1 (c : CV) (l : Nat) (x y : List AV) (h : AH) : R :=match x,y with |[v0,v1,v2],[a0,a1]=>B1 c l v0 v1 v2 a0 a1 h |_,_=>none
theorem V1_ok : AO Tryz.prog 186 [1,0,1,0] [5,4,3] V1 :=by
 intro c l x y h r e
 unfold V1 at e
 split at e
 ·exact⟨Q1,by rw[B1_eq];exact e⟩
 ·cases e
end
end Go.Proofs.YtefichdddddacaaGreatDoor
