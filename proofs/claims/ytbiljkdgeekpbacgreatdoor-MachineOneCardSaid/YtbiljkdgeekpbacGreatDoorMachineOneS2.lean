/- Printed by a program of mine: the bodies of the program's functions aa terms of the primitives of the abstract executor, each shown equal by the kernel. -/
import Derived.Test.YtbiljkdgeekpbacGreatDoorProg
import Derived.Test.YtbiljkdgeekpbacGreatDoorMachineOneAe1
import Derived.KernelRfl
namespace Go.Proofs.YtbiljkdgeekpbacGreatDoor
open Go Go.Ae
set_option maxRecDepth 100000
noncomputable section
attribute [local irreducible] zt ke ky xm qt Yt Xr gF QC XN XP gj jN zO jd zG wM MN pEq G4 pUn vi XC Vv ZH gX xY gk x9 ki z8 kF Qu pMM gi yg xX Qv yc xx Yc Xt Qj Uj Xd Ku qQS K9 Uq K6 zz yR Jr Jz Jh xc vC pIs Xj MJ z7 yB YU AV.undef
set_option maxHeartbeats 40000000
def P382 : Pl :=.z
def S382 : tE1 Tryz.prog P382 382 :=λ_ _ _=>.mk _
def P383 : Pl :=(.n none .z (.n none (.n (some [0]) (.n none .z (.n none .z (.n none .z (.n none (.r [[0]]) (.n none .z (.n none (.n (some []) .z .z) .z)))))) .z) .z))
def S383 : tE2 Tryz.prog P383 383 :=λ_ _ _ _=>.mk _
def P384 : Pl :=.z
def S384 : tE1 Tryz.prog P384 384 :=λ_ _ _=>.mk _
def P385 : Pl :=.z
def S385 : tE1 Tryz.prog P385 385 :=λ_ _ _=>.mk _
def P386 : Pl :=(.n none .z (.n none .z (.n none .z (.n (some []) (.n (some [13,12,3,0]) .z (.n none .z (.n (some [19,12,3,0]) .z .z))) .z))))
def S386 : tE2 Tryz.prog P386 386 :=λ_ _ _ _=>.mk _
def P387 : Pl :=.z
def S387 : tE1 Tryz.prog P387 387 :=λ_ _ _=>.mk _
def P388 : Pl :=(.n none .z (.n (some []) (.n none (.r [[16,13,3,0]]) .z) .z))
def S388 : tE2 Tryz.prog P388 388 :=λ_ _ _ _=>.mk _
def P389 : Pl :=(.n none .z (.n (some []) (.n none (.r [[15,12,3,0]]) .z) .z))
def S389 : tE2 Tryz.prog P389 389 :=λ_ _ _ _=>.mk _
def P390 : Pl :=(.n none .z (.n (some []) .z .z))
def S390 : tE2 Tryz.prog P390 390 :=λ_ _ _ _=>.mk _
def P391 : Pl :=.z
def S391 : tE1 Tryz.prog P391 391 :=λ_ _ _=>.mk _
def P392 : Pl :=.z
def S392 : tE1 Tryz.prog P392 392 :=λ_ _ _=>.mk _
def P393 : Pl :=.z
def S393 : tE1 Tryz.prog P393 393 :=λ_ _ _=>.mk _
def P394 : Pl :=.z
def S394 : tE2 Tryz.prog P394 394 :=λ_ _ _ _=>.mk _
def P395 : Pl :=.z
def S395 : tE4 Tryz.prog P395 395 :=λ_ _ _ _ _ _=>.mk _
def P396 : Pl :=(.n none (.n none .z (.n none (.n (some [0]) .z .z) .z)) .z)
def S396 : tE1 Tryz.prog P396 396 :=λ_ _ _=>.mk _
def Q0 : Pl :=(.n none .z .z)
def B0 (c : CV) (l : Nat) (v0 _ a1 : AV) (h : AH) : R :=
Jh h l λh100=>
zz c (.fn 149 [] []) [(iI 96)] h100 λv101 h102=>
xm a1 λv103=>
qt v103 0 λv104=>
jN h102 v104 λv105=>
zz c (.fn 151 [] []) [v105] h102 λv106 h107=>
zz c (.fn 150 [] []) [v101,v106] h107 λ_ h109=>
jN h109 v0 λv110=>
zz c (.fn 150 [] []) [v101,v110] h109 λ_ h112=>
zz c (.fn 151 [] []) [v101] h112 λv113 h114=>
jd h114 v0 v113 1 λh115=>
xc h115 l none
theorem B0_eq (c : CV) (l : Nat) (v0 a0 a1 : AV) (h : AH) : MH Tryz.prog NN Q0 c 91 [1,1,0,1,0] [3] l [v0] [a0,a1] h=B0 c l v0 a0 a1 h :=by kernel_rfl
def V0 (c : CV) (l : Nat) (x y : List AV) (h : AH) : R :=match x,y with |[v0],[a0,a1]=>B0 c l v0 a0 a1 h |_,_=>none
theorem V0_ok : VOk Tryz.prog 91 [1,1,0,1,0] [3] V0 :=by
 intro c l x y h r e
 unfold V0 at e
 split at e
 ·exact⟨Q0,by rw[B0_eq];exact e⟩
 ·cases e
def Q1 : Pl :=(.n none .z .z)
def B1 (c : CV) (l : Nat) (v0 v1 v2 _ a1 : AV) (h : AH) : R :=
Jh h l λh100=>
xm a1 λv101=>
qt v101 0 λv102=>
jN h100 v102 λv103=>
jN h100 v2 λv104=>
zz c (.fn 215 [] []) [v103,v104] h100 λv105 h106=>
z8 v105 0 λv107=>
z8 v105 1 λv108=>
zt v108 (
jd h106 v1 v107 1 λh109=>
jd h109 v0 (.bool true) 1 λh110=>
xc h110 l (some .ret)) (
xc h106 l none)
theorem B1_eq (c : CV) (l : Nat) (v0 v1 v2 a0 a1 : AV) (h : AH) : MH Tryz.prog NN Q1 c 153 [1,0,1,0] [5,4,3] l [v0,v1,v2] [a0,a1] h=B1 c l v0 v1 v2 a0 a1 h :=by kernel_rfl
def V1 (c : CV) (l : Nat) (x y : List AV) (h : AH) : R :=match x,y with |[v0,v1,v2],[a0,a1]=>B1 c l v0 v1 v2 a0 a1 h |_,_=>none
theorem V1_ok : VOk Tryz.prog 153 [1,0,1,0] [5,4,3] V1 :=by
 intro c l x y h r e
 unfold V1 at e
 split at e
 ·exact⟨Q1,by rw[B1_eq];exact e⟩
 ·cases e
end
end Go.Proofs.YtbiljkdgeekpbacGreatDoor
