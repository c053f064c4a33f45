/- Printed by a program of mine: the bodies of the program's functions aa terms of the primitives of the abstract executor, each shown equal by the kernel. -/
import Derived.Test.YtdlfmpmpmkffjaaGreatDoorProg
import Derived.Test.YtdlfmpmpmkffjaaGreatDoorModelTellsAe1
import Derived.KernelRfl
namespace Go.Proofs.YtdlfmpmpmkffjaaGreatDoor
open Go Go.Ae
abbrev u3_0 : Type := AV × AV × AV × Unit
set_option maxRecDepth 100000
noncomputable section
attribute [local irreducible] jO xf x9 zd qa JL Qx xj yl ga Qk yh qm ji jX jZ vN kp pEq Ju pUn yB QH Jr K8 ya zS yR xJ gO zr xA wF pMM vB jS j0 gP xO zQ Qc QA wQ Xa QV YQ U8 Xc Xm X5 jf gF kF wT w8 zm yj pIs k7 Gf jB zN kQ AV.undef
set_option maxHeartbeats 40000000
def P8 : Pl := (.n none .z (.n none .z (.n none .z (.n none .z (.n none (.n none (.r [[22, 19, 3], [28, 24, 3], [35, 30, 3], [41, 37, 3], [47, 43, 3], [54, 49, 3]]) .z) (.n none .z (.n none (.r [[68, 64, 4], [75, 70], [80, 77]]) .z)))))))
def S8 (c : CV) (h : AH) : R :=
jf c (.fn 40 [] []) [(iI 40)] h fun v0 h1 =>
jS [(iI 0), (iI 0), (iI 0), (iI 0), (uU 0)] [(0, 1, (iI 1)), (4, 1, (uU 2))] fun v2 =>
jS [(iI 0), (iI 0), (iI 0), (iI 0), (uU 0)] [(0, 1, (iI 10)), (1, 1, (iI 1))] fun v3 =>
jS [(iI 0), (iI 0), (iI 0), (iI 0), (uU 0)] [(0, 1, (iI 9)), (1, 1, (iI 1)), (2, 1, (iI 1))] fun v4 =>
jS [(iI 0), (iI 0), (iI 0), (iI 0), (uU 0)] [(0, 1, (iI 11)), (1, 1, (iI 1))] fun v5 =>
jS [(iI 0), (iI 0), (iI 0), (iI 0), (uU 0)] [(0, 1, (iI 21)), (1, 1, (iI 1))] fun v6 =>
j0 h1 28 [(iI 0), (iI 0), (iI 0), (iI 0), (uU 0)] 5 [(0, 5, v2), (5, 5, v3), (10, 5, v4), (15, 5, v5), (20, 5, v6)] fun v7 h8 =>
jS [.nils] [(0, 1, v7)] fun v9 =>
jf c (.fn 41 [] []) [v0, v9, (iI 20), (iI 9)] h8 fun v10 h11 =>
vB h11 85 (.agg [(iI 0), (iI 0), (.str []), .nils, .nils, .nils]) fun v12 h13 =>
jX h13 v12 v10 6 fun h14 =>
qa v12 0 fun v15 =>
qm h14 v15 fun v16 =>
jZ .neq v16 (iI 2) fun v17 =>
zN (α := u3_0 → AH → R) (fun s18 h19 =>
x9 s18.2.1 (.bool true) s18.1 fun v21 =>
zN (α := u3_0 → AH → R) (fun s22 h23 =>
x9 s22.2.1 (.bool true) s22.1 fun v25 =>
zN (α := u3_0 → AH → R) (fun s26 h27 =>
x9 s26.2.1 (.bool true) s26.1 fun v29 =>
zN (α := u3_0 → AH → R) (fun s30 h31 =>
x9 s30.2.1 (.bool true) s30.1 fun v33 =>
zN (α := u3_0 → AH → R) (fun s34 h35 =>
x9 s34.2.1 (.bool true) s34.1 fun v37 =>
zN (α := u3_0 → AH → R) (fun s38 h39 =>
x9 s38.2.1 (.bool true) s38.1 fun v41 =>
jO v41 (
some ((.bool false), h39)) (
qa s38.2.2.1 5 fun v42 =>
qm h39 v42 fun v43 =>
qa s38.2.2.1 4 fun v44 =>
qm h39 v44 fun v45 =>
jf c (.fn 42 [] []) [v43, v45, (iI 9)] h39 fun v46 h47 =>
vB h47 85 (.agg [(iI 0), (iI 0), (.str []), .nils, .nils, .nils]) fun v48 h49 =>
jX h49 v48 v46 6 fun h50 =>
qa v48 0 fun v51 =>
qm h50 v51 fun v52 =>
jZ .eql v52 (iI 2) fun v53 =>
zN (α := u3_0 → AH → R) (fun s54 h55 =>
x9 s54.2.1 s54.1 (.bool false) fun v57 =>
zN (α := AV × AV × Unit → AH → R) (fun s58 h59 =>
x9 s58.2.1 s58.1 (.bool false) fun v61 =>
zN (α := AV × AV × Unit → AH → R) (fun s62 h63 =>
x9 s62.2.1 s62.1 (.bool false) fun v65 =>
some (v65, h63)) fun j64 =>
xf v61 true (
jf c (.fn 43 [] []) [.nils, .nils] h59 fun v66 h67 =>
xA v66 fun v68 =>
jZ .eql v68 (iI 32) fun v69 =>
j64 (v69, v61, ()) h67) (
j64 (.undef, v61, ()) h59)) fun j60 =>
xf v57 true (
qa s54.2.2.1 5 fun v70 =>
qm h55 v70 fun v71 =>
xj v71 (iI 1) 1 fun v72 =>
qm h55 v72 fun v73 =>
jZ .eql v73 (uU 15) fun v74 =>
j60 (v74, v57, ()) h55) (
j60 (.undef, v57, ()) h55)) fun j56 =>
xf v53 true (
qa v48 5 fun v75 =>
qm h50 v75 fun v76 =>
xA v76 fun v77 =>
jZ .eql v77 (iI 40) fun v78 =>
j56 (v78, v53, v48, ()) h50) (
j56 (.undef, v53, v48, ()) h50))) fun j40 =>
xf v37 false (
qa s34.2.2.1 5 fun v79 =>
qm h35 v79 fun v80 =>
xj v80 (iI 15) 1 fun v81 =>
qm h35 v81 fun v82 =>
jZ .neq v82 (uU 15) fun v83 =>
j40 (v83, v37, s34.2.2.1, ()) h35) (
j40 (.undef, v37, s34.2.2.1, ()) h35)) fun j36 =>
xf v33 false (
qa s30.2.2.1 5 fun v84 =>
qm h31 v84 fun v85 =>
xA v85 fun v86 =>
jZ .neq v86 (iI 40) fun v87 =>
j36 (v87, v33, s30.2.2.1, ()) h31) (
j36 (.undef, v33, s30.2.2.1, ()) h31)) fun j32 =>
xf v29 false (
qa s26.2.2.1 3 fun v88 =>
qm h27 v88 fun v89 =>
xA v89 fun v90 =>
jZ .neq v90 (iI 3) fun v91 =>
j32 (v91, v29, s26.2.2.1, ()) h27) (
j32 (.undef, v29, s26.2.2.1, ()) h27)) fun j28 =>
xf v25 false (
qa s22.2.2.1 4 fun v92 =>
qm h23 v92 fun v93 =>
xj v93 (iI 0) 1 fun v94 =>
qm h23 v94 fun v95 =>
jZ .neq v95 (iI 15) fun v96 =>
j28 (v96, v25, s22.2.2.1, ()) h23) (
j28 (.undef, v25, s22.2.2.1, ()) h23)) fun j24 =>
xf v21 false (
qa s18.2.2.1 4 fun v97 =>
qm h19 v97 fun v98 =>
xA v98 fun v99 =>
jZ .neq v99 (iI 1) fun v100 =>
j24 (v100, v21, s18.2.2.1, ()) h19) (
j24 (.undef, v21, s18.2.2.1, ()) h19)) fun j20 =>
xf v17 false (
qa v12 2 fun v101 =>
qm h14 v101 fun v102 =>
kp .neq v102 (.str [49, 53]) fun v103 =>
j20 (v103, v17, v12, ()) h14) (
j20 (.undef, v17, v12, ()) h14)
def W8 : WF := w_0 S8
theorem W8_ok : WOk Tryz.prog 8 W8 := OS (pl := P8) fun _ _ => by kernel_rfl
def P9 : Pl := (.n none .z (.n none .z (.n none .z (.n none .z (.n none (.r [[12]]) .z)))))
def S9 : tE6 Tryz.prog P9 9 := fun _ _ _ _ _ _ _ _ => ⟨_, by conv => lhs; reduce; try dsimp only [pLn]⟩
def P11 : Pl := .z
def S11 : tE2 Tryz.prog P11 11 := fun _ _ _ _ => ⟨_, by conv => lhs; reduce; try dsimp only [pLn]⟩
def P12 : Pl := (.n none .z (.n none .z (.n none .z (.n none (.r [[6]]) .z))))
def S12 : tE3 Tryz.prog P12 12 := fun _ _ _ _ _ => ⟨_, by conv => lhs; reduce; try dsimp only [pLn]⟩
def P13 : Pl := (.n none .z (.n none (.n none (.n (some [0]) (.n none .z (.n (some [0]) (.n none .z (.n none .z (.n none .z (.n none .z (.n (some [0]) .z .z))))) .z)) .z) .z) .z))
def S13 : tE1 Tryz.prog P13 13 := fun _ _ _ => ⟨_, by conv => lhs; reduce; try dsimp only [pLn]⟩
def P14 : Pl := .z
def S14 : tE1 Tryz.prog P14 14 := fun _ _ _ => ⟨_, by conv => lhs; reduce; try dsimp only [pLn]⟩
def P15 : Pl := .z
def S15 : tE3 Tryz.prog P15 15 := fun _ _ _ _ _ => ⟨_, by conv => lhs; reduce; try dsimp only [pLn]⟩
def P16 : Pl := .z
def S16 : tE1 Tryz.prog P16 16 := fun _ _ _ => ⟨_, by conv => lhs; reduce; try dsimp only [pLn]⟩
def P17 : Pl := (.n none .z (.n none .z (.n none (.n none .z (.n none (.n (some [17, 16, 15, 3]) .z .z) .z)) .z)))
def S17 (c : CV) (a0 : AV) (h : AH) : R :=
zd a0 fun v0 =>
qa v0 0 fun v1 =>
qm h v1 fun v2 =>
xA v2 fun v3 =>
gP h 9 [(.str [])] v3 v3 fun v4 h5 =>
zd a0 fun v6 =>
qa v6 0 fun v7 =>
qm h5 v7 fun v8 =>
xA v8 fun v9 =>
kQ (σ := AV × AV × AV × AV × Unit) NN (fun i13 s10 h11 d12 =>
jZ .lss s10.1 s10.2.1 fun v14 =>
jO v14 (
xj s10.2.2.1 s10.1 1 fun v15 =>
qm h11 v15 fun v16 =>
jf c (.fn 54 [] []) [v16] h11 fun v17 h18 =>
xj s10.2.2.2.1 s10.1 1 fun v19 =>
jX h18 v19 v17 1 fun h20 =>
jZ .add s10.1 (iI 1) fun v21 =>
i13 (v21, s10.2.1, s10.2.2.1, s10.2.2.2.1, ()) h20 d12) (
jf c (.fn 55 [] []) [s10.2.2.2.1, (.str [32])] h11 fun v22 h23 =>
jB d12 h23 fun h24 =>
some (v22, h24))) ((iI 0), v9, v8, v4, ()) h5 []
def W17 : WF := w_1 S17
theorem W17_ok : WOk Tryz.prog 17 W17 := JI (pl := P17) fun _ _ _ => by kernel_rfl
def P21 : Pl := .z
def S21 : tE1 Tryz.prog P21 21 := fun _ _ _ => ⟨_, by conv => lhs; reduce; try dsimp only [pLn]⟩
def P22 : Pl := (.n none .z (.n none .z (.n none .z (.n none (.n none .z (.n none (.n (some [8, 7, 2, 1]) (.n none (.n none (.r [[23, 21, 8, 7, 2, 1]]) .z) .z) .z) .z)) (.n none .z (.n none (.n none .z (.n (some [7]) (.n (some [10, 9, 7, 2]) (.n none (.n none (.r [[42, 40, 10, 9, 7, 2]]) .z) (.n none (.n none (.n none .z (.n none .z (.n none .z (.n (some [11, 10, 9, 7, 2]) .z .z)))) .z) .z)) .z) .z)) .z))))))
def S22 : tE3 Tryz.prog P22 22 := fun _ _ _ _ _ => ⟨_, by conv => lhs; reduce; try dsimp only [pLn]⟩
def P23 : Pl := (.n none .z (.n none .z (.n none .z (.n none (.n none .z (.n (some [8, 7, 6]) (.n (some [9, 8, 7, 6, 2, 1, 0]) (.n none .z (.n none (.n none (.n none .z (.n none .z (.n none .z (.n none .z (.n (some [9, 8, 7, 6, 2, 1, 0]) (.n none (.r [[46, 44, 12, 11, 10, 9, 8, 7, 6, 2, 1, 0]]) (.n none .z (.n none (.r [[60, 58, 12, 11, 10, 9, 8, 7, 6, 2, 1, 0], [64, 62, 12, 11, 10, 9, 8, 7, 6, 2, 1, 0]]) (.n none .z (.n none (.r [[78, 76, 12, 11, 10, 9, 8, 7, 6, 2, 1, 0], [82, 80, 12, 11, 10, 9, 8, 7, 6, 2, 1, 0]]) (.n none .z (.n none (.r [[95, 93, 12, 11, 10, 9, 8, 7, 6, 2, 1, 0], [103, 97, 12, 11, 10, 9, 8, 7, 6, 2, 1, 0]]) (.n none .z (.n none (.r [[114, 112, 12, 11, 10, 9, 8, 7, 6, 2, 1, 0], [118, 116, 12, 11, 10, 9, 8, 7, 6, 2, 1, 0], [122, 120, 12, 10, 9, 8, 7, 6, 2, 1, 0]]) (.n none .z (.n none (.r [[140, 138, 12, 10, 9, 8, 7, 6, 2, 1, 0]]) (.n none .z (.n none (.r [[158, 156, 12, 10, 9, 8, 7, 6, 2, 1, 0]]) (.n none .z (.n none (.r [[176, 174, 12, 10, 9, 8, 7, 6, 2, 1, 0]]) (.n none (.r [[9, 8, 7, 6, 2, 1, 0]]) (.n none (.r [[195, 193, 10, 9, 8, 7, 6, 2, 1, 0]]) (.n none (.r [[9, 8, 7, 6, 2, 1, 0]]) .z)))))))))))))))))) .z))))) .z) .z)) .z) .z)) (.n none (.n none (.n (some [8, 7, 6]) .z .z) .z) (.n (some [7, 6]) .z .z))))))
def S23 : tE3 Tryz.prog P23 23 := fun _ _ _ _ _ => ⟨_, by conv => lhs; reduce; try dsimp only [pLn]⟩
def P24 : Pl := .z
def S24 : tE2 Tryz.prog P24 24 := fun _ _ _ _ => ⟨_, by conv => lhs; reduce; try dsimp only [pLn]⟩
def P25 : Pl := (.n none .z (.n none .z (.n none .z (.n none .z (.n (some [7]) .z .z)))))
def S25 : tE3 Tryz.prog P25 25 := fun _ _ _ _ _ => ⟨_, by conv => lhs; reduce; try dsimp only [pLn]⟩
def P26 : Pl := (.n none .z (.n none (.n (some [0]) (.n (some [0]) (.n none (.n none (.r [[14, 9, 0]]) .z) .z) .z) .z) .z))
def S26 : tE1 Tryz.prog P26 26 := fun _ _ _ => ⟨_, by conv => lhs; reduce; try dsimp only [pLn]⟩
def P29 : Pl := (.n none .z (.n none .z (.n none (.n none (.n (some [3, 2, 0]) .z .z) .z) (.n none .z (.n none (.n none .z (.n none (.n (some [5, 4, 2, 0]) .z .z) .z)) .z)))))
def S29 : tE1 Tryz.prog P29 29 := fun _ _ _ => ⟨_, by conv => lhs; reduce; try dsimp only [pLn]⟩
def P30 : Pl := (.n none .z (.n none .z (.n none (.n none .z (.n none (.n (some [5, 1, 0]) .z .z) .z)) .z)))
def S30 (_ : CV) (a0 a1 : AV) (h : AH) : R :=
xA a0 fun v0 =>
xA a1 fun v1 =>
jZ .neq v0 v1 fun v2 =>
jO v2 (
some ((.bool false), h)) (
kQ (σ := u3_0) NN (fun i6 s3 h4 d5 =>
xA s3.2.2.1 fun v7 =>
jZ .lss s3.1 v7 fun v8 =>
jO v8 (
xj s3.2.2.1 s3.1 2 fun v9 =>
ji h4 v9 2 fun v10 =>
xj s3.2.1 s3.1 2 fun v11 =>
ji h4 v11 2 fun v12 =>
Ju [.bas .int 0, .bas .int 1] true v10 v12 fun v13 =>
jO v13 (
jB d5 h4 fun h14 =>
some ((.bool false), h14)) (
jZ .add s3.1 (iI 1) fun v15 =>
i6 (v15, s3.2.1, s3.2.2.1, ()) h4 d5)) (
jB d5 h4 fun h16 =>
some ((.bool true), h16))) ((iI 0), a1, a0, ()) h [])
def W30 : WF := w_2 S30
theorem W30_ok : WOk Tryz.prog 30 W30 := ZW (pl := P30) fun _ _ _ _ => by kernel_rfl
def P31 : Pl := .z
def S31 : tE1 Tryz.prog P31 31 := fun _ _ _ => ⟨_, by conv => lhs; reduce; try dsimp only [pLn]⟩
def P32 : Pl := (.n none .z (.n none .z (.n none (.n none .z (.n none (.n (some [5, 1, 0]) .z .z) .z)) .z)))
def S32 : tE2 Tryz.prog P32 32 := fun _ _ _ _ => ⟨_, by conv => lhs; reduce; try dsimp only [pLn]⟩
def P33 : Pl := .z
def S33 : tE1 Tryz.prog P33 33 := fun _ _ _ => ⟨_, by conv => lhs; reduce; try dsimp only [pLn]⟩
def P37 : Pl := (.n none .z (.n none (.n none (.r [[16, 12, 1]]) .z) (.n none .z (.n none (.n none .z (.n none (.n (some [21, 20, 19, 4, 1]) .z .z) .z)) (.n none .z (.n none (.r [[3, 2]]) .z))))))
def S37 : tE1 Tryz.prog P37 37 := fun _ _ _ => ⟨_, by conv => lhs; reduce; try dsimp only [pLn]⟩
def P40 : Pl := .z
def S40 : tE1 Tryz.prog P40 40 := fun _ _ _ => ⟨_, by conv => lhs; reduce; try dsimp only [pLn]⟩
def P41 : Pl := (.n none .z (.n none .z (.n none .z (.n none .z (.n (some [11, 8, 0]) .z .z)))))
def S41 : tE4 Tryz.prog P41 41 := fun _ _ _ _ _ _ => ⟨_, by conv => lhs; reduce; try dsimp only [pLn]⟩
def P42 : Pl := (.n none .z (.n none .z (.n none (.n none .z (.n none (.n (some [16, 15, 14, 7, 6, 0]) .z .z) .z)) .z)))
def S42 : tE3 Tryz.prog P42 42 := fun _ _ _ _ _ => ⟨_, by conv => lhs; reduce; try dsimp only [pLn]⟩
def P43 : Pl := (.n none .z (.n none .z (.n none .z (.n none (.n none .z (.n none (.n (some [23, 22, 21, 5]) (.n none .z (.n none .z (.n none (.n (some [23, 22, 21, 5]) (.n none .z (.n none (.r [[35, 30, 23, 22, 21, 7, 5]]) .z)) .z) .z))) .z) .z)) .z))))
def S43 : tE2 Tryz.prog P43 43 := fun _ _ _ _ => ⟨_, by conv => lhs; reduce; try dsimp only [pLn]⟩
def P44 : Pl := (.n none .z (.n none (.r [[15, 10, 3, 2], [22, 17, 3, 2], [29, 24, 3, 2], [36, 31, 3, 2], [43, 38]]) .z))
def S44 : tE2 Tryz.prog P44 44 := fun _ _ _ _ => ⟨_, by conv => lhs; reduce; try dsimp only [pLn]⟩
def P45 : Pl := (.n none .z (.n none (.r [[9, 8, 0]]) (.n none .z (.n none (.r [[11, 10, 9, 8, 0]]) (.n none .z (.n none .z (.n none (.r [[11, 8]]) .z)))))))
def S45 : tE4 Tryz.prog P45 45 := fun _ _ _ _ _ _ => ⟨_, by conv => lhs; reduce; try dsimp only [pLn]⟩
def P46 : Pl := (.n none .z (.n none .z (.n none (.n none .z (.n none (.n (some [5, 1, 0]) .z .z) .z)) .z)))
def S46 : tE2 Tryz.prog P46 46 := fun _ _ _ _ => ⟨_, by conv => lhs; reduce; try dsimp only [pLn]⟩
def P47 : Pl := .z
def S47 : tE1 Tryz.prog P47 47 := fun _ _ _ => ⟨_, by conv => lhs; reduce; try dsimp only [pLn]⟩
def P48 : Pl := (.n none .z (.n none .z (.n none .z (.n none .z (.n none (.n none .z (.n none (.n (some [27, 26, 6, 5, 1]) .z .z) .z)) (.n none (.n none .z (.n none (.n (some [37, 36, 35, 6, 5, 1]) (.n none .z (.n none .z (.n none (.n (some [37, 36, 35, 6, 5, 1]) .z .z) .z))) .z) .z)) (.n none (.n none .z (.n none (.n (some [57, 56, 55, 6, 5]) (.n none .z (.n none .z (.n none (.n (some [57, 56, 55, 6, 5]) .z .z) .z))) .z) .z)) .z)))))))
def S48 : tE1 Tryz.prog P48 48 := fun _ _ _ => ⟨_, by conv => lhs; reduce; try dsimp only [pLn]⟩
def P49 : Pl := .z
def S49 : tE0 Tryz.prog P49 49 := fun _ _ => ⟨_, by conv => lhs; reduce; try dsimp only [pLn]⟩
def P50 : Pl := .z
def S50 : tE2 Tryz.prog P50 50 := fun _ _ _ _ => ⟨_, by conv => lhs; reduce; try dsimp only [pLn]⟩
def P51 : Pl := (.n none .z (.n none .z (.n none (.n none .z (.n (some []) (.n none .z (.n none .z (.n none .z (.n none .z (.n none .z (.n none .z (.n none .z (.n none .z (.n none .z (.n none .z (.n none .z (.n none .z (.n none .z (.n none .z (.n none .z (.n none .z (.n none .z (.n none .z (.n none .z (.n none .z (.n none .z (.n none .z (.n none .z (.n none .z (.n (some [120, 6, 5, 3, 0]) .z .z))))))))))))))))))))))))) .z)) .z)))
def S51 : tE2 Tryz.prog P51 51 := fun _ _ _ _ => ⟨_, by conv => lhs; reduce; try dsimp only [pLn]⟩
def P52 : Pl := (.n none .z (.n none (.r [[14, 7]]) .z))
def S52 : tE2 Tryz.prog P52 52 := fun _ _ _ _ => ⟨_, by conv => lhs; reduce; try dsimp only [pLn]⟩
def P53 : Pl := .z
def S53 : tE1 Tryz.prog P53 53 := fun _ _ _ => ⟨_, by conv => lhs; reduce; try dsimp only [pLn]⟩
def P54 : Pl := .z
def S54 (c : CV) (a0 : AV) (h : AH) : R :=
xJ 26 (uU 0) a0 fun v0 =>
zr v0 1 fun v1 =>
zr v0 0 fun v2 =>
jO v1 (
jf c (.fn 89 [] []) [v2, (iI 10)] h fun v3 h4 =>
some (v3, h4)) (
xJ 4 (.bool false) a0 fun v5 =>
zr v5 1 fun v6 =>
zr v5 0 fun v7 =>
jO v6 (
jO v7 (
some ((.str [121, 101, 115]), h)) (
some ((.str [110, 111]), h))) (
some ((.str [110, 111, 110, 101]), h)))
def W54 : WF := w_1 S54
theorem W54_ok : WOk Tryz.prog 54 W54 := JI (pl := P54) fun _ _ _ => by kernel_rfl
def P56 : Pl := (.n none .z (.n none .z (.n (some [1, 0]) .z .z)))
def S56 : tE3 Tryz.prog P56 56 := fun _ _ _ _ _ => ⟨_, by conv => lhs; reduce; try dsimp only [pLn]⟩
def P57 : Pl := (.n none .z (.n none .z (.n none (.n none .z (.n none (.n none .z (.n none (.n none (.r [[5, 4]]) .z) .z)) .z)) (.n none (.r [[5, 4]]) .z))))
def S57 : tE2 Tryz.prog P57 57 := fun _ _ _ _ => ⟨_, by conv => lhs; reduce; try dsimp only [pLn]⟩
def P58 : Pl := .z
def S58 : tE1 Tryz.prog P58 58 := fun _ _ _ => ⟨_, by conv => lhs; reduce; try dsimp only [pLn]⟩
def P59 : Pl := (.n none .z (.n none (.r [[5, 4, 3, 2, 1]]) (.n none .z (.n none .z (.n none (.n none .z (.n none (.n (some [23, 22, 7, 6, 5, 4, 3, 2, 1]) .z (.n none .z (.n none .z (.n none .z (.n none .z (.n none .z (.n none .z (.n none .z (.n (some [54, 22, 7, 6, 4, 3, 2, 1]) .z (.n none .z (.n (some [62, 22, 7, 6, 4, 3, 2, 1]) .z (.n none .z (.n none .z (.n none .z (.n none .z (.n none .z (.n (some [86, 22, 7, 6, 4, 3, 2]) .z .z))))))))))))))))) .z)) .z)))))
def S59 : tE1 Tryz.prog P59 59 := fun _ _ _ => ⟨_, by conv => lhs; reduce; try dsimp only [pLn]⟩
def P60 : Pl := .z
def S60 : tE3 Tryz.prog P60 60 := fun _ _ _ _ _ => ⟨_, by conv => lhs; reduce; try dsimp only [pLn]⟩
def P61 : Pl := .z
def S61 : tE1 Tryz.prog P61 61 := fun _ _ _ => ⟨_, by conv => lhs; reduce; try dsimp only [pLn]⟩
def P62 : Pl := (.n none .z (.n none (.n none (.r [[22, 18, 1]]) .z) (.n none .z (.n none .z (.n none (.n none .z (.n none (.n (some [9, 8, 7, 6, 1]) (.n none .z (.n none (.n none (.n none .z (.n (some [10, 9, 8, 7, 6, 1]) .z (.n none .z (.n none .z (.n none .z (.n none (.n none (.r [[76, 73, 11, 10, 9, 8, 7, 6, 1], [81, 78, 11, 10, 9, 8, 7, 6, 1], [84, 81, 78, 11, 10, 9, 8, 7, 6, 1], [85, 78, 11, 10, 9, 8, 7, 6, 1], [90, 87, 11, 10, 9, 8, 7, 6, 1], [93, 90, 87, 11, 10, 9, 8, 7, 6, 1], [94, 87, 11, 10, 9, 8, 7, 6, 1], [99, 96, 11, 10, 9, 8, 7, 6, 1], [102, 99, 96, 11, 10, 9, 8, 7, 6, 1], [103, 96, 11, 10, 9, 8, 7, 6, 1]]) .z) (.n none .z (.n (some [9, 8, 7, 6, 1]) (.n (some [107, 106, 11, 10, 9, 8, 7, 6, 1]) .z (.n none .z (.n (some [120, 106, 11, 10, 9, 8, 7, 6, 1]) .z .z))) .z)))))))) .z) .z)) .z) .z)) (.n none .z (.n none (.n none .z (.n none (.n (some [12, 8, 7, 1]) (.n none .z (.n none (.n (some [12, 8, 7, 1]) (.n none .z (.n (some [13, 12, 8, 7, 1]) .z (.n none (.n none (.r [[189, 186, 13, 12, 8, 7, 1]]) .z) (.n none (.n none (.r [[207, 197, 13, 12, 8, 7, 1], [216, 209, 12, 8, 7, 1], [221, 216, 209, 12, 8, 7, 1], [222, 209, 12, 8, 7, 1]]) .z) .z)))) .z) .z)) .z) .z)) .z)))))))
def S62 : tE1 Tryz.prog P62 62 := fun _ _ _ => ⟨_, by conv => lhs; reduce; try dsimp only [pLn]⟩
def P63 : Pl := (.n none .z (.n none .z (.n none .z (.n none (.n none .z (.n (some [6, 5, 0]) (.n none .z (.n none .z (.n none .z (.n none .z (.n (some [42, 13, 6, 5, 3, 0]) .z (.n none (.r [[6, 5, 0]]) (.n (some [71, 13, 6, 5, 3, 0]) .z .z))))))) .z)) (.n (some [6]) .z .z)))))
def S63 : tE2 Tryz.prog P63 63 := fun _ _ _ _ => ⟨_, by conv => lhs; reduce; try dsimp only [pLn]⟩
def P64 : Pl := (.n none .z (.n none .z (.n none (.n none .z (.n none (.n (some [4, 3, 0]) (.n none .z (.n none (.n none (.n (some [4, 3, 0]) .z (.n (some [4, 3, 0]) .z .z)) .z) .z)) .z) .z)) .z)))
def S64 (c : CV) (a0 : AV) (h : AH) : R :=
kQ (σ := u3_0) NN (fun i3 s0 h1 d2 =>
xA s0.2.2.1 fun v4 =>
jZ .lss s0.1 v4 fun v5 =>
jO v5 (
zN (α := u3_0 → AH → List Nat → R) (fun s6 h7 d8 =>
zN (α := u3_0 → AH → List Nat → R) (fun s10 h11 d12 =>
jZ .add s10.1 (iI 1) fun v14 =>
i3 (v14, s10.2.1, s10.2.2.1, ()) h11 d12) fun j13 =>
xj s6.2.2.1 s6.1 2 fun v15 =>
qa v15 0 fun v16 =>
qm h7 v16 fun v17 =>
jZ .eql v17 (iI 1) fun v18 =>
jO v18 (
xj s6.2.2.1 s6.1 2 fun v19 =>
qa v19 1 fun v20 =>
qm h7 v20 fun v21 =>
jf c (.fn 97 [] []) [v21] h7 fun v22 h23 =>
kp .add s6.2.1 v22 fun v24 =>
j13 (s6.1, v24, s6.2.2.1, ()) h23 d8) (
xj s6.2.2.1 s6.1 2 fun v25 =>
qa v25 0 fun v26 =>
qm h7 v26 fun v27 =>
jZ .eql v27 (iI 3) fun v28 =>
jO v28 (
kp .add s6.2.1 (.str [110, 111, 110, 101]) fun v29 =>
j13 (s6.1, v29, s6.2.2.1, ()) h7 d8) (
xj s6.2.2.1 s6.1 2 fun v30 =>
qa v30 1 fun v31 =>
qm h7 v31 fun v32 =>
jZ .eql v32 (uU 1) fun v33 =>
jO v33 (
kp .add s6.2.1 (.str [121, 101, 115]) fun v34 =>
j13 (s6.1, v34, s6.2.2.1, ()) h7 d8) (
kp .add s6.2.1 (.str [110, 111]) fun v35 =>
j13 (s6.1, v35, s6.2.2.1, ()) h7 d8)))) fun j9 =>
jZ .gtr s0.1 (iI 0) fun v36 =>
jO v36 (
kp .add s0.2.1 (.str [32]) fun v37 =>
j9 (s0.1, v37, s0.2.2.1, ()) h1 d2) (
j9 (s0.1, s0.2.1, s0.2.2.1, ()) h1 d2)) (
jB d2 h1 fun h38 =>
some (s0.2.1, h38))) ((iI 0), (.str []), a0, ()) h []
def W64 : WF := w_1 S64
theorem W64_ok : WOk Tryz.prog 64 W64 := JI (pl := P64) fun _ _ _ => by kernel_rfl
def P65 : Pl := (.n none .z (.n none (.r [[13, 7]]) .z))
def S65 : tE2 Tryz.prog P65 65 := fun _ _ _ _ => ⟨_, by conv => lhs; reduce; try dsimp only [pLn]⟩
def P66 : Pl := (.n none .z (.n none (.n none .z (.n none (.n (some [5, 1, 0]) .z .z) .z)) .z))
def S66 : tE2 Tryz.prog P66 66 := fun _ _ _ _ => ⟨_, by conv => lhs; reduce; try dsimp only [pLn]⟩
def P67 : Pl := (.n none .z (.n none .z (.n none (.n none .z (.n none (.n (some [4, 3, 0]) (.n none .z (.n none (.n none (.r [[4, 3, 0]]) .z) .z)) .z) .z)) .z)))
def S67 : tE1 Tryz.prog P67 67 := fun _ _ _ => ⟨_, by conv => lhs; reduce; try dsimp only [pLn]⟩
def P68 : Pl := (.n none .z (.n none .z (.n none .z (.n none .z (.n none .z (.n none (.n none .z (.n none (.n (some [6, 5, 4, 3, 0]) .z .z) .z)) (.n none (.r [[5, 3, 0]]) .z)))))))
def S68 : tE1 Tryz.prog P68 68 := fun _ _ _ => ⟨_, by conv => lhs; reduce; try dsimp only [pLn]⟩
def P69 : Pl := (.n none .z (.n none .z (.n none (.n none .z (.n none (.n (some [3]) .z .z) .z)) .z)))
def S69 (c : CV) (a0 : AV) (h : AH) : R :=
vB h 52 .nils fun v0 h1 =>
zd a0 fun v2 =>
qa v2 1 fun v3 =>
qm h1 v3 fun v4 =>
jf c (.fn 99 [] []) [v4] h1 fun v5 h6 =>
kF c v5 [.yield (h6.new .dfd).nx] ((h6.new .dfd).new (.loop .ready none 69 [1, 1, 0, 1, 0] [3] [v0] h6.nx)) fun _ h7 =>
yj h7 (h6.new .dfd).nx fun p9 h8 =>
k7 p9 (
qm h8 v0 fun v10 =>
jB (h6.nx :: []) h8 fun h11 =>
some (v10, h11)) <|
none
def W69 : WF := w_1 S69
theorem W69_ok : WOk Tryz.prog 69 W69 := JI (pl := P69) fun _ _ _ => by kernel_rfl
def P70 : Pl := (.n none .z (.n none .z (.n none (.n none .z (.n none (.n (some [11, 10, 9, 3]) .z .z) .z)) .z)))
def S70 : tE1 Tryz.prog P70 70 := fun _ _ _ => ⟨_, by conv => lhs; reduce; try dsimp only [pLn]⟩
def P72 : Pl := (.n none .z (.n none (.n none (.n none .z (.n none .z (.n none (.r [[11, 5, 3, 1]]) (.n none .z (.n none (.r [[33, 29, 5, 1]]) (.n none .z (.n none (.r [[42, 39]]) .z))))))) .z) .z))
def S72 : tE3 Tryz.prog P72 72 := fun _ _ _ _ _ => ⟨_, by conv => lhs; reduce; try dsimp only [pLn]⟩
def P73 : Pl := (.n none .z (.n (some [2, 1, 0]) .z (.n (some [0]) (.n none (.r [[19, 17, 1, 0]]) .z) .z)))
def S73 : tE3 Tryz.prog P73 73 := fun _ _ _ _ _ => ⟨_, by conv => lhs; reduce; try dsimp only [pLn]⟩
def P74 : Pl := .z
def S74 : tE1 Tryz.prog P74 74 := fun _ _ _ => ⟨_, by conv => lhs; reduce; try dsimp only [pLn]⟩
def P75 : Pl := (.n none .z (.n none (.n none .z (.n none (.n (some [11, 10, 9, 2, 1]) (.n none .z (.n none .z (.n none (.n (some [11, 10, 9, 2, 1]) (.n none .z (.n none .z (.n none (.r [[33, 26, 11, 10, 9, 7, 6, 2, 1], [38, 33, 26, 11, 10, 9, 7, 6, 2, 1], [39, 26, 11, 10, 9, 7, 6, 2, 1], [48, 41, 11, 10, 9, 7, 6, 2, 1], [58, 48, 41, 11, 10, 9, 6, 2, 1], [59, 41, 11, 10, 9, 6, 2, 1]]) .z))) .z) .z))) .z) .z)) .z))
def S75 : tE2 Tryz.prog P75 75 := fun _ _ _ _ => ⟨_, by conv => lhs; reduce; try dsimp only [pLn]⟩
def P76 : Pl := (.n none .z (.n none .z (.n none .z (.n none (.n none .z (.n none (.n (some [14, 13, 12, 4, 3]) .z .z) .z)) .z))))
def S76 : tE1 Tryz.prog P76 76 := fun _ _ _ => ⟨_, by conv => lhs; reduce; try dsimp only [pLn]⟩
def P77 : Pl := (.n none .z (.n none .z (.n none (.n none .z (.n none (.n (some [6, 5, 0]) (.n none .z (.n none (.n none (.n none .z (.n (some [7, 6, 5, 0]) .z .z)) .z) .z)) .z) .z)) .z)))
def S77 : tE2 Tryz.prog P77 77 := fun _ _ _ _ => ⟨_, by conv => lhs; reduce; try dsimp only [pLn]⟩
def P78 : Pl := (.n none .z (.n none .z (.n (some [7, 5, 1, 0]) (.n none (.r [[19, 18, 7, 5, 1, 0]]) .z) .z)))
def S78 : tE2 Tryz.prog P78 78 := fun _ _ _ _ => ⟨_, by conv => lhs; reduce; try dsimp only [pLn]⟩
def P79 : Pl := (.n none .z (.n none .z (.n none (.n none .z (.n none (.n (some [6, 5, 0]) (.n none .z (.n none (.n none (.n none .z (.n (some [7, 6, 5, 0]) .z .z)) .z) .z)) .z) .z)) .z)))
def S79 : tE2 Tryz.prog P79 79 := fun _ _ _ _ => ⟨_, by conv => lhs; reduce; try dsimp only [pLn]⟩
def P80 : Pl := (.n none .z (.n none .z (.n none .z (.n none (.n none .z (.n none (.n (some [7, 6, 5, 1]) .z .z) .z)) (.n none (.n none .z (.n none (.n (some [8, 6, 5, 1]) (.n none .z (.n none (.n (some [8, 6, 5, 1]) .z .z) .z)) .z) .z)) .z)))))
def S80 : tE2 Tryz.prog P80 80 := fun _ _ _ _ => ⟨_, by conv => lhs; reduce; try dsimp only [pLn]⟩
def P81 : Pl := .z
def S81 : tE0 Tryz.prog P81 81 := fun _ _ => ⟨_, by conv => lhs; reduce; try dsimp only [pLn]⟩
def P82 : Pl := .z
def S82 : tE1 Tryz.prog P82 82 := fun _ _ _ => ⟨_, by conv => lhs; reduce; try dsimp only [pLn]⟩
def P83 : Pl := .z
def S83 : tE1 Tryz.prog P83 83 := fun _ _ _ => ⟨_, by conv => lhs; reduce; try dsimp only [pLn]⟩
def P84 : Pl := .z
def S84 : tE2 Tryz.prog P84 84 := fun _ _ _ _ => ⟨_, by conv => lhs; reduce; try dsimp only [pLn]⟩
def P85 : Pl := (.n none .z (.n none .z (.n none (.n none .z (.n none (.n none .z (.n none (.n none (.r [[4]]) .z) (.n none .z (.n none (.n none (.r [[4]]) .z) (.n none .z (.n none (.n none (.r [[4]]) .z) (.n none .z (.n none (.n none (.r [[4]]) .z) (.n none .z (.n none (.n none (.r [[4]]) .z) (.n none .z (.n none (.n none (.r [[4]]) .z) (.n none .z (.n none .z (.n none .z (.n none .z (.n none .z (.n none (.n none (.r [[4]]) .z) (.n none .z (.n none (.n none (.r [[4]]) .z) (.n none .z (.n none (.n none (.r [[4]]) .z) .z)))))))))))))))))))))) .z)) .z)))
def S85 : tE2 Tryz.prog P85 85 := fun _ _ _ _ => ⟨_, by conv => lhs; reduce; try dsimp only [pLn]⟩
def P86 : Pl := (.n none .z (.n none (.n none .z (.n none (.n none .z (.n none (.n none .z (.n none .z (.n none .z (.n (some [10]) .z .z)))) (.n none .z (.n none .z (.n none .z (.n none (.n none .z (.n none .z (.n (some [15]) .z .z))) .z)))))) .z)) .z))
def S86 : tE4 Tryz.prog P86 86 := fun _ _ _ _ _ _ => ⟨_, by conv => lhs; reduce; try dsimp only [pLn]⟩
def P87 : Pl := (.n none .z (.n none (.n none .z (.n none (.n (some [7, 6, 3, 0]) .z (.n none .z (.n (some [18, 6, 0]) .z .z))) .z)) .z))
def S87 : tE2 Tryz.prog P87 87 := fun _ _ _ _ => ⟨_, by conv => lhs; reduce; try dsimp only [pLn]⟩
def P88 : Pl := .z
def S88 : tE1 Tryz.prog P88 88 := fun _ _ _ => ⟨_, by conv => lhs; reduce; try dsimp only [pLn]⟩
def P89 : Pl := .z
def S89 : tE2 Tryz.prog P89 89 := fun _ _ _ _ => ⟨_, by conv => lhs; reduce; try dsimp only [pLn]⟩
def P93 : Pl := (.n none .z (.n none .z (.n none (.n none (.r [[17, 13, 3, 1], [20, 17, 13, 3, 1], [21, 13, 3, 1], [29, 23, 3, 1], [37, 31, 3, 1], [45, 39, 1]]) .z) (.n none (.r [[53, 50]]) .z))))
def S93 : tE1 Tryz.prog P93 93 := fun _ _ _ => ⟨_, by conv => lhs; reduce; try dsimp only [pLn]⟩
def P94 : Pl := (.n none .z (.n none (.n none .z (.n (some []) .z .z)) .z))
def S94 : tE3 Tryz.prog P94 94 := fun _ _ _ _ _ => ⟨_, by conv => lhs; reduce; try dsimp only [pLn]⟩
def P95 : Pl := (.n none .z (.n none (.n none .z (.n none (.n none .z (.n none (.n none .z (.n none .z (.n none .z (.n (some [7]) .z .z)))) (.n none .z (.n none (.n none .z (.n none (.n none (.r [[67, 60, 8, 3, 0]]) .z) .z)) (.n none .z (.n none (.n none .z (.n none .z (.n (some [10]) .z .z))) .z)))))) .z)) .z))
def S95 : tE2 Tryz.prog P95 95 := fun _ _ _ _ => ⟨_, by conv => lhs; reduce; try dsimp only [pLn]⟩
def P96 : Pl := (.n none .z (.n none .z (.n none (.n none .z (.n (some []) (.n (some [17, 14, 5, 3, 0]) .z (.n none .z (.n (some [64, 14, 5, 0]) .z (.n none .z (.n none .z (.n none .z (.n none .z (.n none (.n none .z (.n none .z (.n none .z (.n none (.r [[0]]) .z)))) .z)))))))) .z)) .z)))
def S96 : tE2 Tryz.prog P96 96 := fun _ _ _ _ => ⟨_, by conv => lhs; reduce; try dsimp only [pLn]⟩
def P97 : Pl := (.n none .z (.n none .z (.n none (.n none (.n (some [3, 0]) .z .z) .z) .z)))
def S97 : tE1 Tryz.prog P97 97 := fun _ _ _ => ⟨_, by conv => lhs; reduce; try dsimp only [pLn]⟩
def P98 : Pl := .z
def S98 : tE3 Tryz.prog P98 98 := fun _ _ _ _ _ => ⟨_, by conv => lhs; reduce; try dsimp only [pLn]⟩
def P99 : Pl := .z
def S99 : tE1 Tryz.prog P99 99 := fun _ _ _ => ⟨_, by conv => lhs; reduce; try dsimp only [pLn]⟩
def P100 : Pl := .z
def S100 : tE1 Tryz.prog P100 100 := fun _ _ _ => ⟨_, by conv => lhs; reduce; try dsimp only [pLn]⟩
def P101 : Pl := (.n none .z (.n none .z (.n none (.n none .z (.n none (.n (some [13, 12, 11, 5, 0]) .z .z) .z)) .z)))
def S101 : tE2 Tryz.prog P101 101 := fun _ _ _ _ => ⟨_, by conv => lhs; reduce; try dsimp only [pLn]⟩
def P102 : Pl := .z
def S102 : tE1 Tryz.prog P102 102 := fun _ _ _ => ⟨_, by conv => lhs; reduce; try dsimp only [pLn]⟩
def P103 : Pl := (.n none .z (.n none .z (.n none (.r [[21, 17, 5, 4, 1], [27, 23, 5, 1], [33, 29, 1], [39, 35, 1], [42, 39, 35], [43, 35]]) .z)))
def S103 : tE1 Tryz.prog P103 103 := fun _ _ _ => ⟨_, by conv => lhs; reduce; try dsimp only [pLn]⟩
def P104 : Pl := (.n none .z (.n none .z (.n none (.r [[4]]) .z)))
def S104 : tE2 Tryz.prog P104 104 := fun _ _ _ _ => ⟨_, by conv => lhs; reduce; try dsimp only [pLn]⟩
def P105 : Pl := (.n none .z (.n none (.r [[7, 5]]) .z))
def S105 : tE1 Tryz.prog P105 105 := fun _ _ _ => ⟨_, by conv => lhs; reduce; try dsimp only [pLn]⟩
def P106 : Pl := (.n none .z (.n none (.r [[7, 5]]) .z))
def S106 : tE1 Tryz.prog P106 106 := fun _ _ _ => ⟨_, by conv => lhs; reduce; try dsimp only [pLn]⟩
def P107 : Pl := .z
def S107 : tE1 Tryz.prog P107 107 := fun _ _ _ => ⟨_, by conv => lhs; reduce; try dsimp only [pLn]⟩
def P108 : Pl := (.n none .z (.n none (.n none (.r [[17, 13, 1, 0]]) .z) .z))
def S108 : tE2 Tryz.prog P108 108 := fun _ _ _ _ => ⟨_, by conv => lhs; reduce; try dsimp only [pLn]⟩
def P109 : Pl := .z
def S109 : tE2 Tryz.prog P109 109 := fun _ _ _ _ => ⟨_, by conv => lhs; reduce; try dsimp only [pLn]⟩
def P110 : Pl := .z
def S110 : tE1 Tryz.prog P110 110 := fun _ _ _ => ⟨_, by conv => lhs; reduce; try dsimp only [pLn]⟩
def P111 : Pl := (.n none .z (.n none (.n none .z (.n none (.n (some [9, 8, 7, 1, 0]) .z .z) .z)) .z))
def S111 : tE2 Tryz.prog P111 111 := fun _ _ _ _ => ⟨_, by conv => lhs; reduce; try dsimp only [pLn]⟩
def P112 : Pl := .z
def S112 : tE2 Tryz.prog P112 112 := fun _ _ _ _ => ⟨_, by conv => lhs; reduce; try dsimp only [pLn]⟩
def P113 : Pl := .z
def S113 : tE2 Tryz.prog P113 113 := fun _ _ _ _ => ⟨_, by conv => lhs; reduce; try dsimp only [pLn]⟩
def P114 : Pl := (.n none .z (.n none .z (.n none .z (.n none (.r [[17, 15, 9]]) .z))))
def S114 : tE3 Tryz.prog P114 114 := fun _ _ _ _ _ => ⟨_, by conv => lhs; reduce; try dsimp only [pLn]⟩
def P115 : Pl := (.n none .z (.n none .z (.n none .z (.n none (.r [[17, 15, 9]]) .z))))
def S115 : tE3 Tryz.prog P115 115 := fun _ _ _ _ _ => ⟨_, by conv => lhs; reduce; try dsimp only [pLn]⟩
def P116 : Pl := (.n none .z (.n none .z (.n none .z (.n none (.r [[17, 15, 9]]) .z))))
def S116 : tE3 Tryz.prog P116 116 := fun _ _ _ _ _ => ⟨_, by conv => lhs; reduce; try dsimp only [pLn]⟩
def P117 : Pl := (.n none .z (.n none .z (.n none .z (.n none (.r [[19, 17, 11]]) .z))))
def S117 : tE4 Tryz.prog P117 117 := fun _ _ _ _ _ _ => ⟨_, by conv => lhs; reduce; try dsimp only [pLn]⟩
def P118 : Pl := .z
def S118 : tE2 Tryz.prog P118 118 := fun _ _ _ _ => ⟨_, by conv => lhs; reduce; try dsimp only [pLn]⟩
def P119 : Pl := .z
def S119 : tE3 Tryz.prog P119 119 := fun _ _ _ _ _ => ⟨_, by conv => lhs; reduce; try dsimp only [pLn]⟩
def P120 : Pl := (.n none .z (.n none .z (.n none .z (.n none (.r [[17, 15, 9]]) .z))))
def S120 : tE3 Tryz.prog P120 120 := fun _ _ _ _ _ => ⟨_, by conv => lhs; reduce; try dsimp only [pLn]⟩
def P121 : Pl := .z
def S121 : tE3 Tryz.prog P121 121 := fun _ _ _ _ _ => ⟨_, by conv => lhs; reduce; try dsimp only [pLn]⟩
def P122 : Pl := (.n none .z (.n none .z (.n none (.n none (.r [[24, 22, 9, 8, 7, 4, 0]]) .z) .z)))
def S122 : tE3 Tryz.prog P122 122 := fun _ _ _ _ _ => ⟨_, by conv => lhs; reduce; try dsimp only [pLn]⟩
def P123 : Pl := (.n none .z (.n none .z (.n none .z (.n none (.r [[19, 17, 11]]) .z))))
def S123 : tE4 Tryz.prog P123 123 := fun _ _ _ _ _ _ => ⟨_, by conv => lhs; reduce; try dsimp only [pLn]⟩
def P124 : Pl := .z
def S124 : tE3 Tryz.prog P124 124 := fun _ _ _ _ _ => ⟨_, by conv => lhs; reduce; try dsimp only [pLn]⟩
def P125 : Pl := (.n none .z (.n none .z (.n none .z (.n none (.r [[17, 15, 9]]) .z))))
def S125 : tE3 Tryz.prog P125 125 := fun _ _ _ _ _ => ⟨_, by conv => lhs; reduce; try dsimp only [pLn]⟩
def P126 : Pl := .z
def S126 : tE4 Tryz.prog P126 126 := fun _ _ _ _ _ _ => ⟨_, by conv => lhs; reduce; try dsimp only [pLn]⟩
def P127 : Pl := (.n none .z (.n none (.n none (.r [[13, 8, 1, 0], [20, 15, 1, 0]]) .z) .z))
def S127 : tE2 Tryz.prog P127 127 := fun _ _ _ _ => ⟨_, by conv => lhs; reduce; try dsimp only [pLn]⟩
def P128 : Pl := .z
def S128 : tE3 Tryz.prog P128 128 := fun _ _ _ _ _ => ⟨_, by conv => lhs; reduce; try dsimp only [pLn]⟩
def P129 : Pl := .z
def S129 : tE2 Tryz.prog P129 129 := fun _ _ _ _ => ⟨_, by conv => lhs; reduce; try dsimp only [pLn]⟩
def P130 : Pl := (.n none .z (.n none .z (.n (some [7, 5, 1, 0]) (.n none (.r [[19, 17, 7, 5, 1, 0]]) .z) (.n (some [7, 1, 0]) .z (.n (some [7]) .z .z)))))
def S130 : tE2 Tryz.prog P130 130 := fun _ _ _ _ => ⟨_, by conv => lhs; reduce; try dsimp only [pLn]⟩
def P131 : Pl := (.n none .z (.n none .z (.n none (.r [[]]) .z)))
def S131 : tE3 Tryz.prog P131 131 := fun _ _ _ _ _ => ⟨_, by conv => lhs; reduce; try dsimp only [pLn]⟩
def P132 : Pl := .z
def S132 : tE1 Tryz.prog P132 132 := fun _ _ _ => ⟨_, by conv => lhs; reduce; try dsimp only [pLn]⟩
def P133 : Pl := .z
def S133 : tE1 Tryz.prog P133 133 := fun _ _ _ => ⟨_, by conv => lhs; reduce; try dsimp only [pLn]⟩
def P134 : Pl := .z
def S134 : tE2 Tryz.prog P134 134 := fun _ _ _ _ => ⟨_, by conv => lhs; reduce; try dsimp only [pLn]⟩
def P135 : Pl := .z
def S135 : tE1 Tryz.prog P135 135 := fun _ _ _ => ⟨_, by conv => lhs; reduce; try dsimp only [pLn]⟩
def P136 : Pl := (.n none .z (.n none (.n none (.n (some [0]) .z .z) .z) .z))
def S136 : tE1 Tryz.prog P136 136 := fun _ _ _ => ⟨_, by conv => lhs; reduce; try dsimp only [pLn]⟩
def P137 : Pl := .z
def S137 : tE2 Tryz.prog P137 137 := fun _ _ _ _ => ⟨_, by conv => lhs; reduce; try dsimp only [pLn]⟩
def P140 : Pl := (.n none .z (.n none .z (.n none (.n none .z (.n none (.n none .z (.n none .z (.n none .z (.n none .z (.n (some [15, 5, 4, 2, 0]) .z (.n none .z (.n none .z (.n none .z (.n none .z (.n none .z (.n none .z (.n none .z (.n none .z (.n none .z (.n none .z (.n none .z (.n none .z (.n none .z (.n (some [55, 5, 4, 2, 0]) .z .z))))))))))))))))))) .z)) .z)))
def S140 (_ : CV) (a0 : AV) (h : AH) : R :=
vB h 200 (.agg [(.str []), (iI 0), (iI 0), (iI 0), (.bool false)]) fun v0 h1 =>
jZ .eql a0 (iI 1) fun v2 =>
jO v2 (
jS [(.str []), (iI 0), (iI 0), (iI 0), (.bool false)] [(0, 1, (.str [115, 101, 116])), (1, 1, (iI 7)), (2, 1, (.int .i64 (.negSucc 0))), (3, 1, (.int .i64 (.negSucc 0))), (4, 1, (.bool true))] fun v3 =>
jX h1 v0 v3 5 fun h4 =>
ji h4 v0 5 fun v5 =>
some ((.tup [v5, (.bool true)]), h4)) (
jZ .eql a0 (iI 2) fun v6 =>
jO v6 (
jS [(.str []), (iI 0), (iI 0), (iI 0), (.bool false)] [(0, 1, (.str [109, 111, 118, 101])), (1, 1, (iI 7)), (2, 1, (iI 7)), (3, 1, (.int .i64 (.negSucc 0)))] fun v7 =>
jX h1 v0 v7 5 fun h8 =>
ji h8 v0 5 fun v9 =>
some ((.tup [v9, (.bool true)]), h8)) (
zN (α := AV × AV × AV × AV × AV × Unit → AH → List Nat → R) (fun s10 h11 d12 =>
jO s10.1 (
jS [(.str []), (.str []), (.str []), (.str []), (.str [])] [(0, 1, (.str [97, 100, 100])), (1, 1, (.str [115, 117, 98])), (2, 1, (.str [109, 117, 108])), (3, 1, (.str [108, 101, 115, 115])), (4, 1, (.str [101, 113, 117, 97, 108]))] fun v14 =>
jZ .sub s10.2.2.2.2.1 (iI 3) fun v15 =>
ga v14 v15 5 1 fun v16 =>
jS [(.str []), (iI 0), (iI 0), (iI 0), (.bool false)] [(0, 1, v16), (1, 1, s10.2.2.1), (2, 1, s10.2.2.1), (3, 1, s10.2.2.1)] fun v17 =>
jX h11 s10.2.2.2.1 v17 5 fun h18 =>
jB d12 h18 fun h19 =>
ji h19 s10.2.2.2.1 5 fun v20 =>
some ((.tup [v20, (.bool true)]), h19)) (
jZ .eql s10.2.1 (iI 8) fun v21 =>
jO v21 (
jS [(.str []), (iI 0), (iI 0), (iI 0), (.bool false)] [(0, 1, (.str [108, 111, 97, 100])), (1, 1, s10.2.2.1), (2, 1, s10.2.2.1), (3, 1, (iI 15))] fun v22 =>
jX h11 s10.2.2.2.1 v22 5 fun h23 =>
jB d12 h23 fun h24 =>
ji h24 s10.2.2.2.1 5 fun v25 =>
some ((.tup [v25, (.bool true)]), h24)) (
jZ .eql s10.2.1 (iI 9) fun v26 =>
jO v26 (
jS [(.str []), (iI 0), (iI 0), (iI 0), (.bool false)] [(0, 1, (.str [115, 116, 111, 114, 101])), (1, 1, s10.2.2.1), (2, 1, s10.2.2.1), (3, 1, (iI 15))] fun v27 =>
jX h11 s10.2.2.2.1 v27 5 fun h28 =>
jB d12 h28 fun h29 =>
ji h29 s10.2.2.2.1 5 fun v30 =>
some ((.tup [v30, (.bool true)]), h29)) (
jZ .eql s10.2.1 (iI 10) fun v31 =>
jO v31 (
jS [(.str []), (iI 0), (iI 0), (iI 0), (.bool false)] [(0, 1, (.str [97, 108, 108, 111, 99])), (1, 1, s10.2.2.1), (2, 1, s10.2.2.1), (3, 1, (.int .i64 (.negSucc 0)))] fun v32 =>
jX h11 s10.2.2.2.1 v32 5 fun h33 =>
jB d12 h33 fun h34 =>
ji h34 s10.2.2.2.1 5 fun v35 =>
some ((.tup [v35, (.bool true)]), h34)) (
jZ .eql s10.2.1 (iI 11) fun v36 =>
jO v36 (
jS [(.str []), (iI 0), (iI 0), (iI 0), (.bool false)] [(0, 1, (.str [102, 114, 101, 101])), (1, 1, s10.2.2.1), (2, 1, (.int .i64 (.negSucc 0))), (3, 1, (.int .i64 (.negSucc 0)))] fun v37 =>
jX h11 s10.2.2.2.1 v37 5 fun h38 =>
jB d12 h38 fun h39 =>
ji h39 s10.2.2.2.1 5 fun v40 =>
some ((.tup [v40, (.bool true)]), h39)) (
jZ .eql s10.2.1 (iI 12) fun v41 =>
jO v41 (
jS [(.str []), (iI 0), (iI 0), (iI 0), (.bool false)] [(0, 1, (.str [106, 117, 109, 112])), (1, 1, (.int .i64 (.negSucc 0))), (2, 1, (.int .i64 (.negSucc 0))), (3, 1, (iI 40))] fun v42 =>
jX h11 s10.2.2.2.1 v42 5 fun h43 =>
jB d12 h43 fun h44 =>
ji h44 s10.2.2.2.1 5 fun v45 =>
some ((.tup [v45, (.bool true)]), h44)) (
jZ .eql s10.2.1 (iI 13) fun v46 =>
jO v46 (
jS [(.str []), (iI 0), (iI 0), (iI 0), (.bool false)] [(0, 1, (.str [122, 101, 114, 111])), (1, 1, s10.2.2.1), (2, 1, (.int .i64 (.negSucc 0))), (3, 1, (iI 40))] fun v47 =>
jX h11 s10.2.2.2.1 v47 5 fun h48 =>
jB d12 h48 fun h49 =>
ji h49 s10.2.2.2.1 5 fun v50 =>
some ((.tup [v50, (.bool true)]), h49)) (
zN (α := AV × AV × AV × AV × AV × Unit → AH → List Nat → R) (fun s51 h52 d53 =>
jO s51.1 (
jS [(.str []), (.str []), (.str []), (.str []), (.str []), (.str []), (.str [])] [(0, 1, (.str [111, 112, 101, 110])), (1, 1, (.str [99, 108, 111, 115, 101])), (2, 1, (.str [117, 110, 100, 111])), (3, 1, (.str [101, 105, 116, 104, 101, 114])), (4, 1, (.str [111, 114])), (5, 1, (.str [100, 111, 110, 101])), (6, 1, (.str [114, 101, 116, 114, 121]))] fun v55 =>
jZ .sub s51.2.2.2.2.1 (iI 14) fun v56 =>
ga v55 v56 7 1 fun v57 =>
jS [(.str []), (iI 0), (iI 0), (iI 0), (.bool false)] [(0, 1, v57), (1, 1, (.int .i64 (.negSucc 0))), (2, 1, (.int .i64 (.negSucc 0))), (3, 1, (.int .i64 (.negSucc 0)))] fun v58 =>
jX h52 s51.2.2.2.1 v58 5 fun h59 =>
jB d53 h59 fun h60 =>
ji h60 s51.2.2.2.1 5 fun v61 =>
some ((.tup [v61, (.bool true)]), h60)) (
jZ .eql s51.2.1 (iI 21) fun v62 =>
jO v62 (
jS [(.str []), (iI 0), (iI 0), (iI 0), (.bool false)] [(0, 1, (.str [101, 109, 105, 116])), (1, 1, s51.2.2.1), (2, 1, (.int .i64 (.negSucc 0))), (3, 1, (.int .i64 (.negSucc 0)))] fun v63 =>
jX h52 s51.2.2.2.1 v63 5 fun h64 =>
jB d53 h64 fun h65 =>
ji h65 s51.2.2.2.1 5 fun v66 =>
some ((.tup [v66, (.bool true)]), h65)) (
jZ .eql s51.2.1 (iI 22) fun v67 =>
jO v67 (
jS [(.str []), (iI 0), (iI 0), (iI 0), (.bool false)] [(0, 1, (.str [102, 97, 105, 108])), (1, 1, (.int .i64 (.negSucc 0))), (2, 1, (.int .i64 (.negSucc 0))), (3, 1, (.int .i64 (.negSucc 0)))] fun v68 =>
jX h52 s51.2.2.2.1 v68 5 fun h69 =>
jB d53 h69 fun h70 =>
ji h70 s51.2.2.2.1 5 fun v71 =>
some ((.tup [v71, (.bool true)]), h70)) (
jZ .eql s51.2.1 (iI 23) fun v72 =>
jO v72 (
jZ .sub s51.2.2.1 (iI 1) fun v73 =>
jS [(.str []), (iI 0), (iI 0), (iI 0), (.bool false)] [(0, 1, (.str [99, 97, 108, 108])), (1, 1, (iI 12)), (2, 1, (iI 7)), (3, 1, v73)] fun v74 =>
jX h52 s51.2.2.2.1 v74 5 fun h75 =>
jB d53 h75 fun h76 =>
ji h76 s51.2.2.2.1 5 fun v77 =>
some ((.tup [v77, (.bool true)]), h76)) (
jS [(.str []), (iI 0), (iI 0), (iI 0), (.bool false)] [] fun v78 =>
jX h52 s51.2.2.2.1 v78 5 fun h79 =>
jB d53 h79 fun h80 =>
ji h80 s51.2.2.2.1 5 fun v81 =>
some ((.tup [v81, (.bool false)]), h80)))))) fun j54 =>
jZ .eql s10.2.1 (iI 14) fun v82 =>
jO v82 (
j54 (v82, s10.2.1, s10.2.2.1, s10.2.2.2.1, s10.2.2.2.2.1, ()) h11 d12) (
jZ .eql s10.2.1 (iI 15) fun v83 =>
jO v83 (
j54 (v83, s10.2.1, s10.2.2.1, s10.2.2.2.1, s10.2.2.2.2.1, ()) h11 d12) (
jZ .eql s10.2.1 (iI 16) fun v84 =>
jO v84 (
j54 (v84, s10.2.1, s10.2.2.1, s10.2.2.2.1, s10.2.2.2.2.1, ()) h11 d12) (
jZ .eql s10.2.1 (iI 17) fun v85 =>
jO v85 (
j54 (v85, s10.2.1, s10.2.2.1, s10.2.2.2.1, s10.2.2.2.2.1, ()) h11 d12) (
jZ .eql s10.2.1 (iI 18) fun v86 =>
jO v86 (
j54 (v86, s10.2.1, s10.2.2.1, s10.2.2.2.1, s10.2.2.2.2.1, ()) h11 d12) (
jZ .eql s10.2.1 (iI 19) fun v87 =>
jO v87 (
j54 (v87, s10.2.1, s10.2.2.1, s10.2.2.2.1, s10.2.2.2.2.1, ()) h11 d12) (
jZ .eql s10.2.1 (iI 20) fun v88 =>
j54 (v88, s10.2.1, s10.2.2.1, s10.2.2.2.1, s10.2.2.2.2.1, ()) h11 d12)))))))))))))) fun j13 =>
jZ .eql a0 (iI 3) fun v89 =>
jO v89 (
j13 (v89, a0, (iI 7), v0, a0, ()) h1 []) (
jZ .eql a0 (iI 4) fun v90 =>
jO v90 (
j13 (v90, a0, (iI 7), v0, a0, ()) h1 []) (
jZ .eql a0 (iI 5) fun v91 =>
jO v91 (
j13 (v91, a0, (iI 7), v0, a0, ()) h1 []) (
jZ .eql a0 (iI 6) fun v92 =>
jO v92 (
j13 (v92, a0, (iI 7), v0, a0, ()) h1 []) (
jZ .eql a0 (iI 7) fun v93 =>
j13 (v93, a0, (iI 7), v0, a0, ()) h1 []))))))
def W140 : WF := w_1 S140
theorem W140_ok : WOk Tryz.prog 140 W140 := JI (pl := P140) fun _ _ _ => by kernel_rfl
def P141 : Pl := (.n none .z (.n none (.r [[9, 7, 1, 0], [14, 11, 1, 0], [17, 14, 11], [18, 11]]) .z))
def S141 : tE2 Tryz.prog P141 141 := fun _ _ _ _ => ⟨_, by conv => lhs; reduce; try dsimp only [pLn]⟩
end
end Go.Proofs.YtdlfmpmpmkffjaaGreatDoor
