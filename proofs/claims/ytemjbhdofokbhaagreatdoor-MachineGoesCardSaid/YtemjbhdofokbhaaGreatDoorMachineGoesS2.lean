/- Printed by a program of mine: the bodies of the program's functions aa terms of the primitives of the abstract executor, each shown equal by the kernel. -/
import Derived.Test.YtemjbhdofokbhaaGreatDoorProg
import Derived.Test.YtemjbhdofokbhaaGreatDoorMachineGoesAe1
import Derived.KernelRfl
namespace Go.Proofs.YtemjbhdofokbhaaGreatDoor
open Go Go.Ae
set_option maxRecDepth 100000
noncomputable section
attribute [local irreducible] xA Qc QW yB jJ KJ Yt w4 Jg YR YS wF ji zp zV zB kC ug n8 UW rX gt YI KZ CP wB yh wI yM Qd xC Qb J2 o8 w5 yi xL JY vw xk Ze U6 OC CQ ZX Oo zS vV X5 Xz Xh yx gE Bp Yv NO xB yp Gc AV.undef
set_option maxHeartbeats 40000000
def P380 : Pl :=.z
def S380 : aY Tryz.prog P380 380 :=λ_ _ _=>.mk _
def P381 : Pl :=(.n none .z (.n none .z (.n none .z (.n (some []) (.n (some [13,12,3,0]) .z (.n none .z (.n (some [19,12,3,0]) .z .z))) .z))))
def S381 : bW Tryz.prog P381 381 :=λ_ _ _ _=>.mk _
def P382 : Pl :=.z
def S382 : aY Tryz.prog P382 382 :=λ_ _ _=>.mk _
def P383 : Pl :=(.n none .z (.n (some []) (.n none (.r [[16,13,3,0]]) .z) .z))
def S383 : bW Tryz.prog P383 383 :=λ_ _ _ _=>.mk _
def P384 : Pl :=(.n none .z (.n (some []) (.n none (.r [[15,12,3,0]]) .z) .z))
def S384 : bW Tryz.prog P384 384 :=λ_ _ _ _=>.mk _
def P385 : Pl :=(.n none .z (.n (some []) .z .z))
def S385 : bW Tryz.prog P385 385 :=λ_ _ _ _=>.mk _
def P386 : Pl :=.z
def S386 : aY Tryz.prog P386 386 :=λ_ _ _=>.mk _
def P387 : Pl :=.z
def S387 : aY Tryz.prog P387 387 :=λ_ _ _=>.mk _
def P388 : Pl :=.z
def S388 : aY Tryz.prog P388 388 :=λ_ _ _=>.mk _
def P389 : Pl :=.z
def S389 : bW Tryz.prog P389 389 :=λ_ _ _ _=>.mk _
def P390 : Pl :=.z
def S390 : lZ Tryz.prog P390 390 :=λ_ _ _ _ _ _=>.mk _
def P391 : Pl :=(.n none (.n none .z (.n none (.n (some [0]) .z .z) .z)) .z)
def S391 : aY Tryz.prog P391 391 :=λ_ _ _=>.mk _
def Q0 : Pl :=(.n none .z .z)
def B0 (c : CV) (l : Nat) (v0 _ a1 : AV) (h : AH) : R :=
Xh h l λs9=>
zS c (.fn 172 [] []) [(iI 96)] s9 λoQ Fg=>
yB a1 λBZ=>
jJ BZ 0 λB3=>
ji Fg B3 λv105=>
zS c (.fn 174 [] []) [v105] Fg λR7 R8=>
zS c (.fn 173 [] []) [oQ,R7] R8 λ_ uO=>
ji uO v0 λR9=>
zS c (.fn 173 [] []) [oQ,R9] uO λ_ Sa=>
zS c (.fn 174 [] []) [oQ] Sa λSb Sc=>
zV Sc v0 Sb 1 λSd=>
yx Sd l none
theorem B0_eq (c : CV) (l : Nat) (v0 a0 a1 : AV) (h : AH) : Nu Tryz.prog NN Q0 c 145 [1,1,0,1,0] [3] l [v0] [a0,a1] h=B0 c l v0 a0 a1 h :=by kernel_rfl
def V0 (c : CV) (l : Nat) (x y : List AV) (h : AH) : R :=match x,y with |[v0],[a0,a1]=>B0 c l v0 a0 a1 h |_,_=>none
theorem V0_ok : DW Tryz.prog 145 [1,1,0,1,0] [3] V0 :=by
 intro c l x y h r e
 unfold V0 at e
 split at e
 ·exact⟨Q0,by rw[B0_eq];exact e⟩
 ·cases e
def Q1 : Pl :=(.n none .z .z)
def B1 (c : CV) (l : Nat) (v0 v1 v2 _ a1 : AV) (h : AH) : R :=
Xh h l λs9=>
yB a1 λoQ=>
jJ oQ 0 λSe=>
ji s9 Se λBZ=>
ji s9 v2 λB3=>
zS c (.fn 240 [] []) [BZ,B3] s9 λv105 Fh=>
xC v105 0 λv107=>
xC v105 1 λSf=>
xA Sf (
zV Fh v1 v107 1 λuO=>
zV uO v0 (.bool true) 1 λSg=>
yx Sg l (some .ret)) (
yx Fh l none)
theorem B1_eq (c : CV) (l : Nat) (v0 v1 v2 a0 a1 : AV) (h : AH) : Nu Tryz.prog NN Q1 c 202 [1,0,1,0] [5,4,3] l [v0,v1,v2] [a0,a1] h=B1 c l v0 v1 v2 a0 a1 h :=by kernel_rfl
def V1 (c : CV) (l : Nat) (x y : List AV) (h : AH) : R :=match x,y with |[v0,v1,v2],[a0,a1]=>B1 c l v0 v1 v2 a0 a1 h |_,_=>none
theorem V1_ok : DW Tryz.prog 202 [1,0,1,0] [5,4,3] V1 :=by
 intro c l x y h r e
 unfold V1 at e
 split at e
 ·exact⟨Q1,by rw[B1_eq];exact e⟩
 ·cases e
end
end Go.Proofs.YtemjbhdofokbhaaGreatDoor
