/- Printed by a program of mine: the bodies of the program's functions aa terms of the primitives of the abstract executor, each shown equal by the kernel. -/
import Derived.Test.YtepfejdhlgoekaaGreatDoorProg
import Derived.Test.YtepfejdhlgoekaaGreatDoorMachineLocksAe1
import Derived.KernelRfl
namespace Go.Proofs.YtepfejdhlgoekaaGreatDoor
open Go Go.Ae
set_option maxRecDepth 100000
noncomputable section
attribute [local irreducible] zM kQ gp xg qm X8 J5 gG kb Jf Jh gQ jq zY jD jc wQ Ng pEq Yn pUn vM Jb UZ Nc vn x8 gJ xH kX zP w9 QH pMM gF xh zb kP yw zl Gu J7 kM KJ Jp Gi Oe Gs KQ Gp jm yV Jz QR JK xq vV pIs JM Un zO xp Xf AV.undef
set_option maxHeartbeats 40000000
def P379 : Pl :=.z
def S379 : tE1 Tryz.prog P379 379 :=λ_ _ _=>.mk _
def P380 : Pl :=(.n none .z (.n none .z (.n none .z (.n (some []) (.n (some [13,12,3,0]) .z (.n none .z (.n (some [19,12,3,0]) .z .z))) .z))))
def S380 : tE2 Tryz.prog P380 380 :=λ_ _ _ _=>.mk _
def P381 : Pl :=.z
def S381 : tE1 Tryz.prog P381 381 :=λ_ _ _=>.mk _
def P382 : Pl :=(.n none .z (.n (some []) (.n none (.r [[16,13,3,0]]) .z) .z))
def S382 : tE2 Tryz.prog P382 382 :=λ_ _ _ _=>.mk _
def P383 : Pl :=(.n none .z (.n (some []) (.n none (.r [[15,12,3,0]]) .z) .z))
def S383 : tE2 Tryz.prog P383 383 :=λ_ _ _ _=>.mk _
def P384 : Pl :=(.n none .z (.n (some []) .z .z))
def S384 : tE2 Tryz.prog P384 384 :=λ_ _ _ _=>.mk _
def P385 : Pl :=.z
def S385 : tE1 Tryz.prog P385 385 :=λ_ _ _=>.mk _
def P386 : Pl :=.z
def S386 : tE1 Tryz.prog P386 386 :=λ_ _ _=>.mk _
def P387 : Pl :=.z
def S387 : tE1 Tryz.prog P387 387 :=λ_ _ _=>.mk _
def P388 : Pl :=.z
def S388 : tE2 Tryz.prog P388 388 :=λ_ _ _ _=>.mk _
def P389 : Pl :=.z
def S389 : tE4 Tryz.prog P389 389 :=λ_ _ _ _ _ _=>.mk _
def P390 : Pl :=(.n none (.n none .z (.n none (.n (some [0]) .z .z) .z)) .z)
def S390 : tE1 Tryz.prog P390 390 :=λ_ _ _=>.mk _
def Q0 : Pl :=(.n none .z .z)
def B0 (c : CV) (l : Nat) (v0 _ a1 : AV) (h : AH) : R :=
JK h l λh100=>
jm c (.fn 171 [] []) [(iI 96)] h100 λv101 h102=>
xg a1 λv103=>
qm v103 0 λv104=>
jq h102 v104 λv105=>
jm c (.fn 173 [] []) [v105] h102 λv106 h107=>
jm c (.fn 172 [] []) [v101,v106] h107 λ_ h109=>
jq h109 v0 λv110=>
jm c (.fn 172 [] []) [v101,v110] h109 λ_ h112=>
jm c (.fn 173 [] []) [v101] h112 λv113 h114=>
jD h114 v0 v113 1 λh115=>
xq h115 l none
theorem B0_eq (c : CV) (l : Nat) (v0 a0 a1 : AV) (h : AH) : VX Tryz.prog NN Q0 c 144 [1,1,0,1,0] [3] l [v0] [a0,a1] h=B0 c l v0 a0 a1 h :=by kernel_rfl
def V0 (c : CV) (l : Nat) (x y : List AV) (h : AH) : R :=match x,y with |[v0],[a0,a1]=>B0 c l v0 a0 a1 h |_,_=>none
theorem V0_ok : VOk Tryz.prog 144 [1,1,0,1,0] [3] V0 :=by
 intro c l x y h r e
 unfold V0 at e
 split at e
 ·exact⟨Q0,by rw[B0_eq];exact e⟩
 ·cases e
def Q1 : Pl :=(.n none .z .z)
def B1 (c : CV) (l : Nat) (v0 v1 v2 _ a1 : AV) (h : AH) : R :=
JK h l λh100=>
xg a1 λv101=>
qm v101 0 λv102=>
jq h100 v102 λv103=>
jq h100 v2 λv104=>
jm c (.fn 239 [] []) [v103,v104] h100 λv105 h106=>
zP v105 0 λv107=>
zP v105 1 λv108=>
zM v108 (
jD h106 v1 v107 1 λh109=>
jD h109 v0 (.bool true) 1 λh110=>
xq h110 l (some .ret)) (
xq h106 l none)
theorem B1_eq (c : CV) (l : Nat) (v0 v1 v2 a0 a1 : AV) (h : AH) : VX Tryz.prog NN Q1 c 201 [1,0,1,0] [5,4,3] l [v0,v1,v2] [a0,a1] h=B1 c l v0 v1 v2 a0 a1 h :=by kernel_rfl
def V1 (c : CV) (l : Nat) (x y : List AV) (h : AH) : R :=match x,y with |[v0,v1,v2],[a0,a1]=>B1 c l v0 v1 v2 a0 a1 h |_,_=>none
theorem V1_ok : VOk Tryz.prog 201 [1,0,1,0] [5,4,3] V1 :=by
 intro c l x y h r e
 unfold V1 at e
 split at e
 ·exact⟨Q1,by rw[B1_eq];exact e⟩
 ·cases e
end
end Go.Proofs.YtepfejdhlgoekaaGreatDoor
