/- Printed by a program of mine: the bodies of the program's functions aa terms of the primitives of the abstract executor, each shown equal by the kernel. -/
import Derived.Test.YtpbpkcdebchbbaaGreatDoorProg
import Derived.Test.YtpbpkcdebchbbaaGreatDoorAttemptPlaysAe1
import Derived.KernelRfl
namespace Go.Proofs.YtpbpkcdebchbbaaGreatDoor
open Go Go.Ae
set_option maxRecDepth 100000
noncomputable section
attribute [local irreducible] jw xe zo jo qI Xk Xa xy gp QM XH gR ql q8 qn jY wb XF lJ kU lX vr XA Xv C4 gL yX gT yx kr zX xi Q7 oR vQ jf zR QC vV z6 NH KC MY C5 Ml MN jC yp Jo ve Jb yJ vt Bm XW VS jR zg wN AV.undef
set_option maxHeartbeats 40000000
def P272 : Pl :=.z
def S272 : bn Tryz.prog P272 272 :=λ_ _ _ _=>.mk _
def P275 : Pl :=.z
def S275 : cD Tryz.prog P275 275 :=λ_ _ _ _ _=>.mk _
def P276 : Pl :=(.n none .z (.n none .z (.n none (.n none (.r [[24,22,9,8,7,4,0]]) .z) .z)))
def S276 : cD Tryz.prog P276 276 :=λ_ _ _ _ _=>.mk _
def P281 : Pl :=(.n none .z (.n none (.n none (.r [[13,8,1,0],[20,15,1,0]]) .z) .z))
def S281 : bn Tryz.prog P281 281 :=λ_ _ _ _=>.mk _
def P282 : Pl :=.z
def S282 : cD Tryz.prog P282 282 :=λ_ _ _ _ _=>.mk _
def P283 : Pl :=.z
def S283 : bn Tryz.prog P283 283 :=λ_ _ _ _=>.mk _
def P284 : Pl :=(.n none .z (.n none .z (.n (some [7,5,1,0]) (.n none (.r [[19,17,7,5,1,0]]) .z) (.n (some [7,1,0]) .z (.n (some [7]) .z .z)))))
def S284 : bn Tryz.prog P284 284 :=λ_ _ _ _=>.mk _
def P285 : Pl :=(.n none .z (.n none .z (.n none (.r [[]]) .z)))
def S285 : cD Tryz.prog P285 285 :=λ_ _ _ _ _=>.mk _
def P286 : Pl :=.z
def S286 : aI Tryz.prog P286 286 :=λ_ _ _=>.mk _
def P287 : Pl :=.z
def S287 : aI Tryz.prog P287 287 :=λ_ _ _=>.mk _
def P288 : Pl :=.z
def S288 : bn Tryz.prog P288 288 :=λ_ _ _ _=>.mk _
def P289 : Pl :=.z
def S289 : aI Tryz.prog P289 289 :=λ_ _ _=>.mk _
def P290 : Pl :=(.n none .z (.n none (.n none (.n (some [0]) .z .z) .z) .z))
def S290 : aI Tryz.prog P290 290 :=λ_ _ _=>.mk _
def P291 : Pl :=.z
def S291 : bn Tryz.prog P291 291 :=λ_ _ _ _=>.mk _
def P292 : Pl :=.z
def S292 : aI Tryz.prog P292 292 :=λ_ _ _=>.mk _
def P293 : Pl :=(.n none .z (.n none (.n none (.r [[14,12,2,1,0]]) .z) (.n none .z (.n none (.n none .z (.n none (.r [[32,29,7,2,1]]) .z)) .z))))
def S293 : cD Tryz.prog P293 293 :=λ_ _ _ _ _=>.mk _
def P305 : Pl :=(.n none .z (.n none .z (.n none (.n none .z (.n none (.n (some [4,3,0]) .z .z) .z)) .z)))
def S305 : aI Tryz.prog P305 305 :=λ_ _ _=>.mk _
def P306 : Pl :=(.n none .z (.n none (.n none (.r [[8,6,0]]) .z) (.n none .z (.n none (.n none (.n (some [3,0]) .z .z) .z) .z))))
def S306 : aI Tryz.prog P306 306 :=λ_ _ _=>.mk _
def P307 : Pl :=.z
def S307 : aI Tryz.prog P307 307 :=λ_ _ _=>.mk _
def P308 : Pl :=(.n none .z (.n none (.n none (.r [[7,5,0]]) .z) .z))
def S308 : aI Tryz.prog P308 308 :=λ_ _ _=>.mk _
def P309 : Pl :=(.n none .z (.r [[]]))
def S309 : bn Tryz.prog P309 309 :=λ_ _ _ _=>.mk _
def P314 : Pl :=(.n none .z (.n none (.n none .z (.n none (.n (some [8,7,1,0]) .z .z) .z)) .z))
def S314 : bn Tryz.prog P314 314 :=λ_ _ _ _=>.mk _
def P315 : Pl :=.z
def S315 : bn Tryz.prog P315 315 :=λ_ _ _ _=>.mk _
def P316 : Pl :=(.n none .z (.n none .z (.n none .z (.n none (.r [[]]) .z))))
def S316 : lQ Tryz.prog P316 316 :=λ_ _ _ _ _ _=>.mk _
def P317 : Pl :=.z
def S317 : bn Tryz.prog P317 317 :=λ_ _ _ _=>.mk _
def P335 : Pl :=(.n none .z (.n none .z (.n none (.n none (.r [[20,13,4,3,1,0],[25,22,4,3,0],[31,25,22,4,3,0],[32,22,4,3,0]]) .z) .z)))
def S335 : rN Tryz.prog P335 335 :=λ_ _ _ _ _ _ _=>.mk _
def P336 : Pl :=.z
def S336 : aI Tryz.prog P336 336 :=λ_ _ _=>.mk _
def P351 : Pl :=(.n none .z (.n none .z (.n none (.n none .z (.n none (.n (some [3,0]) .z .z) .z)) .z)))
def S351 : aI Tryz.prog P351 351 :=λ_ _ _=>.mk _
def P352 : Pl :=(.n none .z (.n none .z (.n none .z (.n none .z (.n (some [10,8]) .z .z)))))
def S352 : cD Tryz.prog P352 352 :=λ_ _ _ _ _=>.mk _
def P353 : Pl :=(.n none .z (.n none .z (.n none .z (.n none (.n none (.r [[22,20,6,1,0],[33,24,6,1,0]]) .z) .z))))
def S353 : bn Tryz.prog P353 353 :=λ_ _ _ _=>.mk _
def P354 : Pl :=.z
def S354 : bn Tryz.prog P354 354 :=λ_ _ _ _=>.mk _
def P355 : Pl :=.z
def S355 : aI Tryz.prog P355 355 :=λ_ _ _=>.mk _
def P356 : Pl :=.z
def S356 : aI Tryz.prog P356 356 :=λ_ _ _=>.mk _
def P357 : Pl :=(.n none .z (.n none .z (.n none .z (.n none .z (.n none .z (.n none (.r [[2]]) .z))))))
def S357 : aI Tryz.prog P357 357 :=λ_ _ _=>.mk _
def P358 : Pl :=.z
def S358 : bn Tryz.prog P358 358 :=λ_ _ _ _=>.mk _
def P359 : Pl :=.z
def S359 : aI Tryz.prog P359 359 :=λ_ _ _=>.mk _
def P360 : Pl :=(.n none .z (.n none .z (.n none (.n none .z (.n none (.n (some [15,14,13,3]) .z .z) .z)) .z)))
def S360 : aI Tryz.prog P360 360 :=λ_ _ _=>.mk _
def P385 : Pl :=(.n none .z (.n none (.n none (.r [[7,5,0]]) .z) .z))
def S385 : aI Tryz.prog P385 385 :=λ_ _ _=>.mk _
def P386 : Pl :=.z
def S386 : bn Tryz.prog P386 386 :=λ_ _ _ _=>.mk _
def P387 : Pl :=(.n none .z (.n none .z (.n none (.r [[]]) .z)))
def S387 : aI Tryz.prog P387 387 :=λ_ _ _=>.mk _
def P388 : Pl :=.z
def S388 : aI Tryz.prog P388 388 :=λ_ _ _=>.mk _
def P413 : Pl :=.z
def S413 : aI Tryz.prog P413 413 :=λ_ _ _=>.mk _
def P414 : Pl :=.z
def S414 : aI Tryz.prog P414 414 :=λ_ _ _=>.mk _
def P415 : Pl :=(.n none .z (.n (some []) (.n none .z (.n none .z (.n none .z (.n none .z (.n none (.r [[41,34,3,0]]) .z))))) .z))
def S415 (c : CV) (a0 a1 : AV) (h : AH) : R :=
vQ h 63 a1 λv0 h1=>
zg (α :=Unit→AH→List Nat→R) (λ_ h3 d4=>
jR d4 h3 λh6=>
some ((.bm []),h6)) λj5=>
jo a0 λv7=>
qI v7 0 λv8=>
q8 h1 v0 6 λv9=>
jC c (.fn 417 [] []) [v8,v9] h1 λv10 bY=>
jw v10 (
j5 (()) bY []) (
jo a0 λv12=>
qI v12 8 λfm=>
ql bY fm λfM=>
jY .eql fM (iI 1) λfG=>
jw fG (
qI v0 0 λiF=>
ql bY iF λeQ=>
jo a0 λfi=>
qI fi 12 λlB=>
qn bY lB eQ 1 λfW=>
jo a0 λv21=>
qI v21 8 λv22=>
qn fW v22 (iI 2) 1 λoG=>
j5 (()) oG []) (
jo a0 λv24=>
qI v24 8 λlK=>
ql bY lK λlz=>
jY .eql lz (iI 2) λnE=>
zg (α :=AV×AV×AV×AV×Unit→AH→R) (λFT s9=>
zo FT.2.1 FT.1 (.bool false) λv31=>
jw v31 (
jo FT.2.2.2.1 λmA=>
qI mA 0 λmb=>
jC c (.fn 418 [] []) [mb,(iI 2),(iI 0),(.int .i64 (.negSucc 0))] s9 λ_ Dt=>
j5 (()) Dt []) (
qI FT.2.2.1 1 λlL=>
q8 s9 lL 3 λv37=>
jC c (.fn 419 [] []) [FT.2.2.2.1,v37] s9 λ_ Cr=>
j5 (()) Cr [])) λj30=>
xe nE true (
qI v0 1 λv40=>
q8 bY v40 3 λpp=>
jo a0 λpt=>
qI pt 9 λoh=>
q8 bY oh 3 λot=>
kU [.b6 .int 0,.b6 .bool 1,.b6 .int 2] false pp ot λs8=>
j30 (s8,nE,v0,a0,()) bY) (
j30 (.undef,nE,v0,a0,()) bY)))
def W415 : WF :=tL S415
theorem W415_ok : eG Tryz.prog 415 W415 :=XN (pl :=P415) λ_ _ _ _=>by kernel_rfl
def P416 : Pl :=.z
def S416 : aI Tryz.prog P416 416 :=λ_ _ _=>.mk _
def P417 : Pl :=(.n none .z (.n (some [0]) (.n none (.r [[13,10,3,0]]) .z) .z))
def S417 : bn Tryz.prog P417 417 :=λ_ _ _ _=>.mk _
def P418 : Pl :=.z
def S418 : lQ Tryz.prog P418 418 :=λ_ _ _ _ _ _=>.mk _
def P419 : Pl :=(.n none .z (.n none .z (.n (some []) .z .z)))
def S419 : bn Tryz.prog P419 419 :=λ_ _ _ _=>.mk _
def P420 : Pl :=.z
def S420 : bn Tryz.prog P420 420 :=λ_ _ _ _=>.mk _
def P421 : Pl :=.z
def S421 : aI Tryz.prog P421 421 :=λ_ _ _=>.mk _
def P422 : Pl :=.z
def S422 : aI Tryz.prog P422 422 :=λ_ _ _=>.mk _
def P423 : Pl :=(.n none .z (.n none (.n (some [0]) (.n none .z (.n none .z (.n none .z (.n none (.r [[0]]) (.n none .z (.n none (.n (some []) .z .z) .z)))))) .z) .z))
def S423 : bn Tryz.prog P423 423 :=λ_ _ _ _=>.mk _
def P424 : Pl :=.z
def S424 : aI Tryz.prog P424 424 :=λ_ _ _=>.mk _
def P425 : Pl :=.z
def S425 : aI Tryz.prog P425 425 :=λ_ _ _=>.mk _
def P426 : Pl :=(.n none .z (.n none .z (.n none .z (.n (some []) (.n (some [13,12,3,0]) .z (.n none .z (.n (some [19,12,3,0]) .z .z))) .z))))
def S426 : bn Tryz.prog P426 426 :=λ_ _ _ _=>.mk _
def P427 : Pl :=.z
def S427 : aI Tryz.prog P427 427 :=λ_ _ _=>.mk _
def P428 : Pl :=(.n none .z (.n (some []) (.n none (.r [[16,13,3,0]]) .z) .z))
def S428 : bn Tryz.prog P428 428 :=λ_ _ _ _=>.mk _
def P429 : Pl :=(.n none .z (.n (some []) (.n none (.r [[15,12,3,0]]) .z) .z))
def S429 : bn Tryz.prog P429 429 :=λ_ _ _ _=>.mk _
def P430 : Pl :=(.n none .z (.n (some []) .z .z))
def S430 : bn Tryz.prog P430 430 :=λ_ _ _ _=>.mk _
def P431 : Pl :=.z
def S431 : aI Tryz.prog P431 431 :=λ_ _ _=>.mk _
def P432 : Pl :=.z
def S432 : aI Tryz.prog P432 432 :=λ_ _ _=>.mk _
def P433 : Pl :=.z
def S433 : aI Tryz.prog P433 433 :=λ_ _ _=>.mk _
def P434 : Pl :=.z
def S434 : bn Tryz.prog P434 434 :=λ_ _ _ _=>.mk _
def P435 : Pl :=.z
def S435 : lQ Tryz.prog P435 435 :=λ_ _ _ _ _ _=>.mk _
def P436 : Pl :=(.n none (.n none .z (.n none (.n (some [0]) .z .z) .z)) .z)
def S436 : aI Tryz.prog P436 436 :=λ_ _ _=>.mk _
def Q0 : Pl :=(.n none .z .z)
def B0 (c : CV) (l : Nat) (v0 _ a1 : AV) (h : AH) : R :=
Jb h l λoD=>
jC c (.fn 201 [] []) [(iI 96)] oD λlA uP=>
jo a1 λta=>
qI ta 0 λmD=>
ql uP mD λv105=>
jC c (.fn 203 [] []) [v105] uP λoz Cw=>
jC c (.fn 202 [] []) [lA,oz] Cw λ_ uQ=>
ql uQ v0 λsZ=>
jC c (.fn 202 [] []) [lA,sZ] uQ λ_ Rk=>
jC c (.fn 203 [] []) [lA] Rk λCn Co=>
qn Co v0 Cn 1 λuR=>
yJ uR l none
theorem B0_eq (c : CV) (l : Nat) (v0 a0 a1 : AV) (h : AH) : Vu Tryz.prog NN Q0 c 156 [1,1,0,1,0] [3] l [v0] [a0,a1] h=B0 c l v0 a0 a1 h :=by kernel_rfl
def V0 (c : CV) (l : Nat) (x y : List AV) (h : AH) : R :=match x,y with |[v0],[a0,a1]=>B0 c l v0 a0 a1 h |_,_=>none
theorem V0_ok : Ea Tryz.prog 156 [1,1,0,1,0] [3] V0 :=by
 intro c l x y h r e
 unfold V0 at e
 split at e
 ·exact⟨Q0,by rw[B0_eq];exact e⟩
 ·cases e
def Q1 : Pl :=(.n none .z .z)
def B1 (c : CV) (l : Nat) (v0 v1 v2 _ a1 : AV) (h : AH) : R :=
Jb h l λoD=>
jo a1 λlA=>
qI lA 0 λCk=>
ql oD Ck λta=>
ql oD v2 λmD=>
jC c (.fn 291 [] []) [ta,mD] oD λv105 FU=>
zX v105 0 λv107=>
zX v105 1 λCy=>
jw Cy (
qn FU v1 v107 1 λuQ=>
qn uQ v0 (.bool true) 1 λRl=>
yJ Rl l (some .ret)) (
yJ FU l none)
theorem B1_eq (c : CV) (l : Nat) (v0 v1 v2 a0 a1 : AV) (h : AH) : Vu Tryz.prog NN Q1 c 244 [1,0,1,0] [5,4,3] l [v0,v1,v2] [a0,a1] h=B1 c l v0 v1 v2 a0 a1 h :=by kernel_rfl
def V1 (c : CV) (l : Nat) (x y : List AV) (h : AH) : R :=match x,y with |[v0,v1,v2],[a0,a1]=>B1 c l v0 v1 v2 a0 a1 h |_,_=>none
theorem V1_ok : Ea Tryz.prog 244 [1,0,1,0] [5,4,3] V1 :=by
 intro c l x y h r e
 unfold V1 at e
 split at e
 ·exact⟨Q1,by rw[B1_eq];exact e⟩
 ·cases e
end
end Go.Proofs.YtpbpkcdebchbbaaGreatDoor
