/- Printed by a program of mine: the bodies of the program's functions aa terms of the primitives of the abstract executor, each shown equal by the kernel. -/
import Derived.Test.YtdlfmpmpmkffjaaGreatDoorProg
import Derived.Test.YtdlfmpmpmkffjaaGreatDoorInterpPlaysAe1
import Derived.KernelRfl
namespace Go.Proofs.YtdlfmpmpmkffjaaGreatDoor
open Go Go.Ae
abbrev u5_0 : Type := AV × AV × AV × AV × AV × Unit
abbrev u4_0 : Type := AV × AV × AV × AV × Unit
abbrev u3_0 : Type := AV × AV × AV × Unit
set_option maxRecDepth 100000
noncomputable section
attribute [local irreducible] jL xm yX zF qd JQ QK xL yR gT Qj yS jK jh jV jJ vH kR pEq JL pUn yx kl JF Km yI ze yP zt gI zc xn wY pMM vR jb j4 gB xE j0 Xj ku gr Xl ki Jr U3 Xg Xh XK jP gw wl wN w8 zT yK pIs kc Gy jA zA kX AV.undef
set_option maxHeartbeats 40000000
def P3 : Pl := (.n none .z (.n none .z (.n none .z (.n none .z (.n none .z (.n none .z (.n none .z (.n none .z (.n none (.r [[33, 31, 6, 5, 2], [37, 35, 6, 2], [41, 39, 6, 2], [46, 43, 2], [51, 48, 2], [56, 53, 2], [62, 58, 2], [67, 64]]) .z)))))))))
def S3 (c : CV) (h : AH) : R :=
jP c (.fn 11 [] []) [(iI 40), (iI 9)] h fun v0 h1 =>
pEq .ptr false v0 .nilp fun v2 =>
jL v2 (
some ((.bool false), h1)) (
jb [(iI 0), (iI 0), (iI 0), (iI 0), (uU 0)] [(0, 1, (iI 1)), (4, 1, (uU 6))] fun v3 =>
jb [(iI 0), (iI 0), (iI 0), (iI 0), (uU 0)] [(0, 1, (iI 8)), (1, 1, (iI 1))] fun v4 =>
jb [(iI 0), (iI 0), (iI 0), (iI 0), (uU 0)] [(0, 1, (iI 21)), (1, 1, (iI 1))] fun v5 =>
j4 h1 28 [(iI 0), (iI 0), (iI 0), (iI 0), (uU 0)] 3 [(0, 5, v3), (5, 5, v4), (10, 5, v5)] fun v6 h7 =>
jb [.nils] [(0, 1, v6)] fun v8 =>
jP c (.fn 12 [] []) [v8, v0, (iI 9)] h7 fun v9 h10 =>
pEq .ptr false v9 .nilp fun v11 =>
jL v11 (
some ((.bool false), h10)) (
jP c (.fn 13 [] []) [v9] h10 fun v12 h13 =>
jP c (.fn 14 [] []) [v0] h13 fun v14 h15 =>
jP c (.fn 15 [] []) [v0, (iI 6), (uU 5)] h15 fun _ h17 =>
jP c (.fn 13 [] []) [v9] h17 fun v18 h19 =>
jP c (.fn 16 [] []) [v9] h19 fun v20 h21 =>
jJ .eql v12 (iI 1) fun v22 =>
zA (α := u5_0 → AH → R) (fun s23 h24 =>
yX s23.2.1 s23.1 (.bool false) fun v26 =>
zA (α := u4_0 → AH → R) (fun s27 h28 =>
yX s27.2.1 s27.1 (.bool false) fun v30 =>
zA (α := u4_0 → AH → R) (fun s31 h32 =>
yX s31.2.1 s31.1 (.bool false) fun v34 =>
zA (α := u3_0 → AH → R) (fun s35 h36 =>
yX s35.2.1 s35.1 (.bool false) fun v38 =>
zA (α := u3_0 → AH → R) (fun s39 h40 =>
yX s39.2.1 s39.1 (.bool false) fun v42 =>
zA (α := u3_0 → AH → R) (fun s43 h44 =>
yX s43.2.1 s43.1 (.bool false) fun v46 =>
zA (α := u3_0 → AH → R) (fun s47 h48 =>
yX s47.2.1 s47.1 (.bool false) fun v50 =>
zA (α := AV × AV × Unit → AH → R) (fun s51 h52 =>
yX s51.2.1 s51.1 (.bool false) fun v54 =>
some (v54, h52)) fun j53 =>
xm v50 true (
jP c (.fn 21 [] []) [s47.2.2.1] h48 fun v55 h56 =>
jJ .eql v55 (iI 0) fun v57 =>
j53 (v57, v50, ()) h56) (
j53 (.undef, v50, ()) h48)) fun j49 =>
xm v46 true (
jP c (.fn 20 [] []) [s43.2.2.1] h44 fun v58 h59 =>
xn v58 fun v60 =>
jJ .eql v60 (iI 8) fun v61 =>
j49 (v61, v46, s43.2.2.1, ()) h59) (
j49 (.undef, v46, s43.2.2.1, ()) h44)) fun j45 =>
xm v42 true (
jP c (.fn 19 [] []) [s39.2.2.1] h40 fun v62 h63 =>
jJ .eql v62 (iI 3) fun v64 =>
j45 (v64, v42, s39.2.2.1, ()) h63) (
j45 (.undef, v42, s39.2.2.1, ()) h40)) fun j41 =>
xm v38 true (
jP c (.fn 18 [] []) [s35.2.2.1] h36 fun v65 h66 =>
jJ .eql v65 (iI 6) fun v67 =>
j41 (v67, v38, s35.2.2.1, ()) h66) (
j41 (.undef, v38, s35.2.2.1, ()) h36)) fun j37 =>
xm v34 true (
jP c (.fn 17 [] []) [s31.2.2.1] h32 fun v68 h69 =>
kR .eql v68 (.str [53]) fun v70 =>
j37 (v70, v34, s31.2.2.2.1, ()) h69) (
j37 (.undef, v34, s31.2.2.2.1, ()) h32)) fun j33 =>
xm v30 true (
pEq .ptr true s27.2.2.1 .nilp fun v71 =>
j33 (v71, v30, s27.2.2.1, s27.2.2.2.1, ()) h28) (
j33 (.undef, v30, s27.2.2.1, s27.2.2.2.1, ()) h28)) fun j29 =>
xm v26 true (
jJ .eql s23.2.2.2.1 (iI 2) fun v72 =>
j29 (v72, v26, s23.2.2.1, s23.2.2.2.2.1, ()) h24) (
j29 (.undef, v26, s23.2.2.1, s23.2.2.2.2.1, ()) h24)) fun j25 =>
xm v22 true (
jJ .eql v14 (iI 6) fun v73 =>
j25 (v73, v22, v20, v18, v9, ()) h21) (
j25 (.undef, v22, v20, v18, v9, ()) h21)))
def W3 : WF := w_0 S3
theorem W3_ok : WOk Tryz.prog 3 W3 := ZH (pl := P3) fun _ _ => by kernel_rfl
def P4 : Pl := (.n none .z (.n none .z (.n none .z (.n none .z (.n none .z (.n none .z (.n none (.r [[18, 17, 16, 15, 13]]) (.n none .z (.n none (.n none .z (.n (some [18, 17, 16, 15]) (.n (some [19, 18, 17, 16, 15, 13]) (.n none .z (.n none (.n none (.n none .z (.n none (.n none (.r [[79, 20, 19, 18, 17, 16, 15, 13]]) .z) (.n none .z (.n none .z (.n none (.r [[90, 86, 22, 19, 18, 17, 16, 15, 13], [100, 92, 22, 19, 18, 17, 16, 15, 13], [110, 102, 19, 18, 17, 16, 15, 13]]) .z))))) .z) .z)) .z) .z)) (.n none (.n none (.r [[131, 18, 16, 15]]) .z) (.n none .z (.n none (.r [[12]]) .z))))))))))))
def S4 : tE6 Tryz.prog P4 4 := fun _ _ _ _ _ _ _ _ => ⟨_, by conv => lhs; reduce; try dsimp only [pLn]⟩
def P11 : Pl := .z
def S11 : tE2 Tryz.prog P11 11 := fun _ _ _ _ => ⟨_, by conv => lhs; reduce; try dsimp only [pLn]⟩
def P12 : Pl := (.n none .z (.n none .z (.n none .z (.n none (.r [[6]]) .z))))
def S12 : tE3 Tryz.prog P12 12 := fun _ _ _ _ _ => ⟨_, by conv => lhs; reduce; try dsimp only [pLn]⟩
def P13 : Pl := (.n none .z (.n none (.n none (.n (some [0]) (.n none .z (.n (some [0]) (.n none .z (.n none .z (.n none .z (.n none .z (.n (some [0]) .z .z))))) .z)) .z) .z) .z))
def S13 : tE1 Tryz.prog P13 13 := fun _ _ _ => ⟨_, by conv => lhs; reduce; try dsimp only [pLn]⟩
def P14 : Pl := .z
def S14 : tE1 Tryz.prog P14 14 := fun _ _ _ => ⟨_, by conv => lhs; reduce; try dsimp only [pLn]⟩
def P15 : Pl := .z
def S15 : tE3 Tryz.prog P15 15 := fun _ _ _ _ _ => ⟨_, by conv => lhs; reduce; try dsimp only [pLn]⟩
def P16 : Pl := .z
def S16 : tE1 Tryz.prog P16 16 := fun _ _ _ => ⟨_, by conv => lhs; reduce; try dsimp only [pLn]⟩
def P17 : Pl := (.n none .z (.n none .z (.n none (.n none .z (.n none (.n (some [17, 16, 15, 3]) .z .z) .z)) .z)))
def S17 (c : CV) (a0 : AV) (h : AH) : R :=
zF a0 fun v0 =>
qd v0 0 fun v1 =>
jK h v1 fun v2 =>
xn v2 fun v3 =>
gB h 9 [(.str [])] v3 v3 fun v4 h5 =>
zF a0 fun v6 =>
qd v6 0 fun v7 =>
jK h5 v7 fun v8 =>
xn v8 fun v9 =>
kX (σ := u4_0) NN (fun i13 s10 h11 d12 =>
jJ .lss s10.1 s10.2.1 fun v14 =>
jL v14 (
xL s10.2.2.1 s10.1 1 fun v15 =>
jK h11 v15 fun v16 =>
jP c (.fn 54 [] []) [v16] h11 fun v17 h18 =>
xL s10.2.2.2.1 s10.1 1 fun v19 =>
jV h18 v19 v17 1 fun h20 =>
jJ .add s10.1 (iI 1) fun v21 =>
i13 (v21, s10.2.1, s10.2.2.1, s10.2.2.2.1, ()) h20 d12) (
jP c (.fn 55 [] []) [s10.2.2.2.1, (.str [32])] h11 fun v22 h23 =>
jA d12 h23 fun h24 =>
some (v22, h24))) ((iI 0), v9, v8, v4, ()) h5 []
def W17 : WF := w_1 S17
theorem W17_ok : WOk Tryz.prog 17 W17 := Q8 (pl := P17) fun _ _ _ => by kernel_rfl
def P18 : Pl := .z
def S18 : tE1 Tryz.prog P18 18 := fun _ _ _ => ⟨_, by conv => lhs; reduce; try dsimp only [pLn]⟩
def P19 : Pl := .z
def S19 : tE1 Tryz.prog P19 19 := fun _ _ _ => ⟨_, by conv => lhs; reduce; try dsimp only [pLn]⟩
def P20 : Pl := .z
def S20 : tE1 Tryz.prog P20 20 := fun _ _ _ => ⟨_, by conv => lhs; reduce; try dsimp only [pLn]⟩
def P21 : Pl := .z
def S21 : tE1 Tryz.prog P21 21 := fun _ _ _ => ⟨_, by conv => lhs; reduce; try dsimp only [pLn]⟩
def P22 : Pl := (.n none .z (.n none .z (.n none .z (.n none (.n none .z (.n none (.n (some [8, 7, 2, 1]) (.n none (.n none (.r [[23, 21, 8, 7, 2, 1]]) .z) .z) .z) .z)) (.n none .z (.n none (.n none .z (.n (some [7]) (.n (some [10, 9, 7, 2]) (.n none (.n none (.r [[42, 40, 10, 9, 7, 2]]) .z) (.n none (.n none (.n none .z (.n none .z (.n none .z (.n (some [11, 10, 9, 7, 2]) .z .z)))) .z) .z)) .z) .z)) .z))))))
def S22 : tE3 Tryz.prog P22 22 := fun _ _ _ _ _ => ⟨_, by conv => lhs; reduce; try dsimp only [pLn]⟩
def P23 : Pl := (.n none .z (.n none .z (.n none .z (.n none (.n none .z (.n (some [8, 7, 6]) (.n (some [9, 8, 7, 6, 2, 1, 0]) (.n none .z (.n none (.n none (.n none .z (.n none .z (.n none .z (.n none .z (.n (some [9, 8, 7, 6, 2, 1, 0]) (.n none (.r [[46, 44, 12, 11, 10, 9, 8, 7, 6, 2, 1, 0]]) (.n none .z (.n none (.r [[60, 58, 12, 11, 10, 9, 8, 7, 6, 2, 1, 0], [64, 62, 12, 11, 10, 9, 8, 7, 6, 2, 1, 0]]) (.n none .z (.n none (.r [[78, 76, 12, 11, 10, 9, 8, 7, 6, 2, 1, 0], [82, 80, 12, 11, 10, 9, 8, 7, 6, 2, 1, 0]]) (.n none .z (.n none (.r [[95, 93, 12, 11, 10, 9, 8, 7, 6, 2, 1, 0], [103, 97, 12, 11, 10, 9, 8, 7, 6, 2, 1, 0]]) (.n none .z (.n none (.r [[114, 112, 12, 11, 10, 9, 8, 7, 6, 2, 1, 0], [118, 116, 12, 11, 10, 9, 8, 7, 6, 2, 1, 0], [122, 120, 12, 10, 9, 8, 7, 6, 2, 1, 0]]) (.n none .z (.n none (.r [[140, 138, 12, 10, 9, 8, 7, 6, 2, 1, 0]]) (.n none .z (.n none (.r [[158, 156, 12, 10, 9, 8, 7, 6, 2, 1, 0]]) (.n none .z (.n none (.r [[176, 174, 12, 10, 9, 8, 7, 6, 2, 1, 0]]) (.n none (.r [[9, 8, 7, 6, 2, 1, 0]]) (.n none (.r [[195, 193, 10, 9, 8, 7, 6, 2, 1, 0]]) (.n none (.r [[9, 8, 7, 6, 2, 1, 0]]) .z)))))))))))))))))) .z))))) .z) .z)) .z) .z)) (.n none (.n none (.n (some [8, 7, 6]) .z .z) .z) (.n (some [7, 6]) .z .z))))))
def S23 : tE3 Tryz.prog P23 23 := fun _ _ _ _ _ => ⟨_, by conv => lhs; reduce; try dsimp only [pLn]⟩
def P24 : Pl := .z
def S24 : tE2 Tryz.prog P24 24 := fun _ _ _ _ => ⟨_, by conv => lhs; reduce; try dsimp only [pLn]⟩
def P25 : Pl := (.n none .z (.n none .z (.n none .z (.n none .z (.n (some [7]) .z .z)))))
def S25 : tE3 Tryz.prog P25 25 := fun _ _ _ _ _ => ⟨_, by conv => lhs; reduce; try dsimp only [pLn]⟩
def P26 : Pl := (.n none .z (.n none (.n (some [0]) (.n (some [0]) (.n none (.n none (.r [[14, 9, 0]]) .z) .z) .z) .z) .z))
def S26 : tE1 Tryz.prog P26 26 := fun _ _ _ => ⟨_, by conv => lhs; reduce; try dsimp only [pLn]⟩
def P27 : Pl := (.n none .z (.n none .z (.n none (.n none (.r [[17, 14, 6, 5, 1, 0]]) .z) (.n none (.n none .z (.n none (.n (some [7, 6, 5, 1, 0]) .z .z) .z)) (.n none (.r [[4]]) .z)))))
def S27 : tE2 Tryz.prog P27 27 := fun _ _ _ _ => ⟨_, by conv => lhs; reduce; try dsimp only [pLn]⟩
def P28 : Pl := .z
def S28 : tE3 Tryz.prog P28 28 := fun _ _ _ _ _ => ⟨_, by conv => lhs; reduce; try dsimp only [pLn]⟩
def P29 : Pl := (.n none .z (.n none .z (.n none (.n none (.n (some [3, 2, 0]) .z .z) .z) (.n none .z (.n none (.n none .z (.n none (.n (some [5, 4, 2, 0]) .z .z) .z)) .z)))))
def S29 : tE1 Tryz.prog P29 29 := fun _ _ _ => ⟨_, by conv => lhs; reduce; try dsimp only [pLn]⟩
def P30 : Pl := (.n none .z (.n none .z (.n none (.n none .z (.n none (.n (some [5, 1, 0]) .z .z) .z)) .z)))
def S30 (_ : CV) (a0 a1 : AV) (h : AH) : R :=
xn a0 fun v0 =>
xn a1 fun v1 =>
jJ .neq v0 v1 fun v2 =>
jL v2 (
some ((.bool false), h)) (
kX (σ := u3_0) NN (fun i6 s3 h4 d5 =>
xn s3.2.2.1 fun v7 =>
jJ .lss s3.1 v7 fun v8 =>
jL v8 (
xL s3.2.2.1 s3.1 2 fun v9 =>
jh h4 v9 2 fun v10 =>
xL s3.2.1 s3.1 2 fun v11 =>
jh h4 v11 2 fun v12 =>
JL [.bas .int 0, .bas .int 1] true v10 v12 fun v13 =>
jL v13 (
jA d5 h4 fun h14 =>
some ((.bool false), h14)) (
jJ .add s3.1 (iI 1) fun v15 =>
i6 (v15, s3.2.1, s3.2.2.1, ()) h4 d5)) (
jA d5 h4 fun h16 =>
some ((.bool true), h16))) ((iI 0), a1, a0, ()) h [])
def W30 : WF := w_2 S30
theorem W30_ok : WOk Tryz.prog 30 W30 := N4 (pl := P30) fun _ _ _ _ => by kernel_rfl
def P31 : Pl := .z
def S31 : tE1 Tryz.prog P31 31 := fun _ _ _ => ⟨_, by conv => lhs; reduce; try dsimp only [pLn]⟩
def P32 : Pl := (.n none .z (.n none .z (.n none (.n none .z (.n none (.n (some [5, 1, 0]) .z .z) .z)) .z)))
def S32 : tE2 Tryz.prog P32 32 := fun _ _ _ _ => ⟨_, by conv => lhs; reduce; try dsimp only [pLn]⟩
def P33 : Pl := .z
def S33 : tE1 Tryz.prog P33 33 := fun _ _ _ => ⟨_, by conv => lhs; reduce; try dsimp only [pLn]⟩
def P34 : Pl := .z
def S34 : tE1 Tryz.prog P34 34 := fun _ _ _ => ⟨_, by conv => lhs; reduce; try dsimp only [pLn]⟩
def P37 : Pl := (.n none .z (.n none (.n none (.r [[16, 12, 1]]) .z) (.n none .z (.n none (.n none .z (.n none (.n (some [21, 20, 19, 4, 1]) .z .z) .z)) (.n none .z (.n none (.r [[3, 2]]) .z))))))
def S37 : tE1 Tryz.prog P37 37 := fun _ _ _ => ⟨_, by conv => lhs; reduce; try dsimp only [pLn]⟩
def P47 : Pl := .z
def S47 : tE1 Tryz.prog P47 47 := fun _ _ _ => ⟨_, by conv => lhs; reduce; try dsimp only [pLn]⟩
def P48 : Pl := (.n none .z (.n none .z (.n none .z (.n none .z (.n none (.n none .z (.n none (.n (some [27, 26, 6, 5, 1]) .z .z) .z)) (.n none (.n none .z (.n none (.n (some [37, 36, 35, 6, 5, 1]) (.n none .z (.n none .z (.n none (.n (some [37, 36, 35, 6, 5, 1]) .z .z) .z))) .z) .z)) (.n none (.n none .z (.n none (.n (some [57, 56, 55, 6, 5]) (.n none .z (.n none .z (.n none (.n (some [57, 56, 55, 6, 5]) .z .z) .z))) .z) .z)) .z)))))))
def S48 : tE1 Tryz.prog P48 48 := fun _ _ _ => ⟨_, by conv => lhs; reduce; try dsimp only [pLn]⟩
def P49 : Pl := .z
def S49 : tE0 Tryz.prog P49 49 := fun _ _ => ⟨_, by conv => lhs; reduce; try dsimp only [pLn]⟩
def P50 : Pl := .z
def S50 : tE2 Tryz.prog P50 50 := fun _ _ _ _ => ⟨_, by conv => lhs; reduce; try dsimp only [pLn]⟩
def P51 : Pl := (.n none .z (.n none .z (.n none (.n none .z (.n (some []) (.n none .z (.n none .z (.n none .z (.n none .z (.n none .z (.n none .z (.n none .z (.n none .z (.n none .z (.n none .z (.n none .z (.n none .z (.n none .z (.n none .z (.n none .z (.n none .z (.n none .z (.n none .z (.n none .z (.n none .z (.n none .z (.n none .z (.n none .z (.n none .z (.n (some [120, 6, 5, 3, 0]) .z .z))))))))))))))))))))))))) .z)) .z)))
def S51 : tE2 Tryz.prog P51 51 := fun _ _ _ _ => ⟨_, by conv => lhs; reduce; try dsimp only [pLn]⟩
def P52 : Pl := (.n none .z (.n none (.r [[14, 7]]) .z))
def S52 : tE2 Tryz.prog P52 52 := fun _ _ _ _ => ⟨_, by conv => lhs; reduce; try dsimp only [pLn]⟩
def P53 : Pl := .z
def S53 : tE1 Tryz.prog P53 53 := fun _ _ _ => ⟨_, by conv => lhs; reduce; try dsimp only [pLn]⟩
def P54 : Pl := .z
def S54 (c : CV) (a0 : AV) (h : AH) : R :=
zt 26 (uU 0) a0 fun v0 =>
zc v0 1 fun v1 =>
zc v0 0 fun v2 =>
jL v1 (
jP c (.fn 89 [] []) [v2, (iI 10)] h fun v3 h4 =>
some (v3, h4)) (
zt 4 (.bool false) a0 fun v5 =>
zc v5 1 fun v6 =>
zc v5 0 fun v7 =>
jL v6 (
jL v7 (
some ((.str [121, 101, 115]), h)) (
some ((.str [110, 111]), h))) (
some ((.str [110, 111, 110, 101]), h)))
def W54 : WF := w_1 S54
theorem W54_ok : WOk Tryz.prog 54 W54 := Q8 (pl := P54) fun _ _ _ => by kernel_rfl
def P56 : Pl := (.n none .z (.n none .z (.n (some [1, 0]) .z .z)))
def S56 : tE3 Tryz.prog P56 56 := fun _ _ _ _ _ => ⟨_, by conv => lhs; reduce; try dsimp only [pLn]⟩
def P57 : Pl := (.n none .z (.n none .z (.n none (.n none .z (.n none (.n none .z (.n none (.n none (.r [[5, 4]]) .z) .z)) .z)) (.n none (.r [[5, 4]]) .z))))
def S57 : tE2 Tryz.prog P57 57 := fun _ _ _ _ => ⟨_, by conv => lhs; reduce; try dsimp only [pLn]⟩
def P58 : Pl := .z
def S58 : tE1 Tryz.prog P58 58 := fun _ _ _ => ⟨_, by conv => lhs; reduce; try dsimp only [pLn]⟩
def P59 : Pl := (.n none .z (.n none (.r [[5, 4, 3, 2, 1]]) (.n none .z (.n none .z (.n none (.n none .z (.n none (.n (some [23, 22, 7, 6, 5, 4, 3, 2, 1]) .z (.n none .z (.n none .z (.n none .z (.n none .z (.n none .z (.n none .z (.n none .z (.n (some [54, 22, 7, 6, 4, 3, 2, 1]) .z (.n none .z (.n (some [62, 22, 7, 6, 4, 3, 2, 1]) .z (.n none .z (.n none .z (.n none .z (.n none .z (.n none .z (.n (some [86, 22, 7, 6, 4, 3, 2]) .z .z))))))))))))))))) .z)) .z)))))
def S59 : tE1 Tryz.prog P59 59 := fun _ _ _ => ⟨_, by conv => lhs; reduce; try dsimp only [pLn]⟩
def P60 : Pl := .z
def S60 : tE3 Tryz.prog P60 60 := fun _ _ _ _ _ => ⟨_, by conv => lhs; reduce; try dsimp only [pLn]⟩
def P61 : Pl := .z
def S61 : tE1 Tryz.prog P61 61 := fun _ _ _ => ⟨_, by conv => lhs; reduce; try dsimp only [pLn]⟩
def P62 : Pl := (.n none .z (.n none (.n none (.r [[22, 18, 1]]) .z) (.n none .z (.n none .z (.n none (.n none .z (.n none (.n (some [9, 8, 7, 6, 1]) (.n none .z (.n none (.n none (.n none .z (.n (some [10, 9, 8, 7, 6, 1]) .z (.n none .z (.n none .z (.n none .z (.n none (.n none (.r [[76, 73, 11, 10, 9, 8, 7, 6, 1], [81, 78, 11, 10, 9, 8, 7, 6, 1], [84, 81, 78, 11, 10, 9, 8, 7, 6, 1], [85, 78, 11, 10, 9, 8, 7, 6, 1], [90, 87, 11, 10, 9, 8, 7, 6, 1], [93, 90, 87, 11, 10, 9, 8, 7, 6, 1], [94, 87, 11, 10, 9, 8, 7, 6, 1], [99, 96, 11, 10, 9, 8, 7, 6, 1], [102, 99, 96, 11, 10, 9, 8, 7, 6, 1], [103, 96, 11, 10, 9, 8, 7, 6, 1]]) .z) (.n none .z (.n (some [9, 8, 7, 6, 1]) (.n (some [107, 106, 11, 10, 9, 8, 7, 6, 1]) .z (.n none .z (.n (some [120, 106, 11, 10, 9, 8, 7, 6, 1]) .z .z))) .z)))))))) .z) .z)) .z) .z)) (.n none .z (.n none (.n none .z (.n none (.n (some [12, 8, 7, 1]) (.n none .z (.n none (.n (some [12, 8, 7, 1]) (.n none .z (.n (some [13, 12, 8, 7, 1]) .z (.n none (.n none (.r [[189, 186, 13, 12, 8, 7, 1]]) .z) (.n none (.n none (.r [[207, 197, 13, 12, 8, 7, 1], [216, 209, 12, 8, 7, 1], [221, 216, 209, 12, 8, 7, 1], [222, 209, 12, 8, 7, 1]]) .z) .z)))) .z) .z)) .z) .z)) .z)))))))
def S62 : tE1 Tryz.prog P62 62 := fun _ _ _ => ⟨_, by conv => lhs; reduce; try dsimp only [pLn]⟩
def P63 : Pl := (.n none .z (.n none .z (.n none .z (.n none (.n none .z (.n (some [6, 5, 0]) (.n none .z (.n none .z (.n none .z (.n none .z (.n (some [42, 13, 6, 5, 3, 0]) .z (.n none (.r [[6, 5, 0]]) (.n (some [71, 13, 6, 5, 3, 0]) .z .z))))))) .z)) (.n (some [6]) .z .z)))))
def S63 : tE2 Tryz.prog P63 63 := fun _ _ _ _ => ⟨_, by conv => lhs; reduce; try dsimp only [pLn]⟩
def P64 : Pl := (.n none .z (.n none .z (.n none (.n none .z (.n none (.n (some [4, 3, 0]) (.n none .z (.n none (.n none (.n (some [4, 3, 0]) .z (.n (some [4, 3, 0]) .z .z)) .z) .z)) .z) .z)) .z)))
def S64 (c : CV) (a0 : AV) (h : AH) : R :=
kX (σ := u3_0) NN (fun i3 s0 h1 d2 =>
xn s0.2.2.1 fun v4 =>
jJ .lss s0.1 v4 fun v5 =>
jL v5 (
zA (α := u3_0 → AH → List Nat → R) (fun s6 h7 d8 =>
zA (α := u3_0 → AH → List Nat → R) (fun s10 h11 d12 =>
jJ .add s10.1 (iI 1) fun v14 =>
i3 (v14, s10.2.1, s10.2.2.1, ()) h11 d12) fun j13 =>
xL s6.2.2.1 s6.1 2 fun v15 =>
qd v15 0 fun v16 =>
jK h7 v16 fun v17 =>
jJ .eql v17 (iI 1) fun v18 =>
jL v18 (
xL s6.2.2.1 s6.1 2 fun v19 =>
qd v19 1 fun v20 =>
jK h7 v20 fun v21 =>
jP c (.fn 97 [] []) [v21] h7 fun v22 h23 =>
kR .add s6.2.1 v22 fun v24 =>
j13 (s6.1, v24, s6.2.2.1, ()) h23 d8) (
xL s6.2.2.1 s6.1 2 fun v25 =>
qd v25 0 fun v26 =>
jK h7 v26 fun v27 =>
jJ .eql v27 (iI 3) fun v28 =>
jL v28 (
kR .add s6.2.1 (.str [110, 111, 110, 101]) fun v29 =>
j13 (s6.1, v29, s6.2.2.1, ()) h7 d8) (
xL s6.2.2.1 s6.1 2 fun v30 =>
qd v30 1 fun v31 =>
jK h7 v31 fun v32 =>
jJ .eql v32 (uU 1) fun v33 =>
jL v33 (
kR .add s6.2.1 (.str [121, 101, 115]) fun v34 =>
j13 (s6.1, v34, s6.2.2.1, ()) h7 d8) (
kR .add s6.2.1 (.str [110, 111]) fun v35 =>
j13 (s6.1, v35, s6.2.2.1, ()) h7 d8)))) fun j9 =>
jJ .gtr s0.1 (iI 0) fun v36 =>
jL v36 (
kR .add s0.2.1 (.str [32]) fun v37 =>
j9 (s0.1, v37, s0.2.2.1, ()) h1 d2) (
j9 (s0.1, s0.2.1, s0.2.2.1, ()) h1 d2)) (
jA d2 h1 fun h38 =>
some (s0.2.1, h38))) ((iI 0), (.str []), a0, ()) h []
def W64 : WF := w_1 S64
theorem W64_ok : WOk Tryz.prog 64 W64 := Q8 (pl := P64) fun _ _ _ => by kernel_rfl
def P65 : Pl := (.n none .z (.n none (.r [[13, 7]]) .z))
def S65 : tE2 Tryz.prog P65 65 := fun _ _ _ _ => ⟨_, by conv => lhs; reduce; try dsimp only [pLn]⟩
def P66 : Pl := (.n none .z (.n none (.n none .z (.n none (.n (some [5, 1, 0]) .z .z) .z)) .z))
def S66 : tE2 Tryz.prog P66 66 := fun _ _ _ _ => ⟨_, by conv => lhs; reduce; try dsimp only [pLn]⟩
def P67 : Pl := (.n none .z (.n none .z (.n none (.n none .z (.n none (.n (some [4, 3, 0]) (.n none .z (.n none (.n none (.r [[4, 3, 0]]) .z) .z)) .z) .z)) .z)))
def S67 : tE1 Tryz.prog P67 67 := fun _ _ _ => ⟨_, by conv => lhs; reduce; try dsimp only [pLn]⟩
def P68 : Pl := (.n none .z (.n none .z (.n none .z (.n none .z (.n none .z (.n none (.n none .z (.n none (.n (some [6, 5, 4, 3, 0]) .z .z) .z)) (.n none (.r [[5, 3, 0]]) .z)))))))
def S68 : tE1 Tryz.prog P68 68 := fun _ _ _ => ⟨_, by conv => lhs; reduce; try dsimp only [pLn]⟩
def P69 : Pl := (.n none .z (.n none .z (.n none (.n none .z (.n none (.n (some [3]) .z .z) .z)) .z)))
def S69 (c : CV) (a0 : AV) (h : AH) : R :=
vR h 52 .nils fun v0 h1 =>
zF a0 fun v2 =>
qd v2 1 fun v3 =>
jK h1 v3 fun v4 =>
jP c (.fn 99 [] []) [v4] h1 fun v5 h6 =>
wl c v5 [.yield (h6.new .dfd).nx] ((h6.new .dfd).new (.loop .ready none 69 [1, 1, 0, 1, 0] [3] [v0] h6.nx)) fun _ h7 =>
yK h7 (h6.new .dfd).nx fun p9 h8 =>
kc p9 (
jK h8 v0 fun v10 =>
jA (h6.nx :: []) h8 fun h11 =>
some (v10, h11)) <|
none
def W69 : WF := w_1 S69
theorem W69_ok : WOk Tryz.prog 69 W69 := Q8 (pl := P69) fun _ _ _ => by kernel_rfl
def P70 : Pl := (.n none .z (.n none .z (.n none (.n none .z (.n none (.n (some [11, 10, 9, 3]) .z .z) .z)) .z)))
def S70 : tE1 Tryz.prog P70 70 := fun _ _ _ => ⟨_, by conv => lhs; reduce; try dsimp only [pLn]⟩
def P71 : Pl := .z
def S71 : tE1 Tryz.prog P71 71 := fun _ _ _ => ⟨_, by conv => lhs; reduce; try dsimp only [pLn]⟩
def P72 : Pl := (.n none .z (.n none (.n none (.n none .z (.n none .z (.n none (.r [[11, 5, 3, 1]]) (.n none .z (.n none (.r [[33, 29, 5, 1]]) (.n none .z (.n none (.r [[42, 39]]) .z))))))) .z) .z))
def S72 : tE3 Tryz.prog P72 72 := fun _ _ _ _ _ => ⟨_, by conv => lhs; reduce; try dsimp only [pLn]⟩
def P73 : Pl := (.n none .z (.n (some [2, 1, 0]) .z (.n (some [0]) (.n none (.r [[19, 17, 1, 0]]) .z) .z)))
def S73 : tE3 Tryz.prog P73 73 := fun _ _ _ _ _ => ⟨_, by conv => lhs; reduce; try dsimp only [pLn]⟩
def P74 : Pl := .z
def S74 : tE1 Tryz.prog P74 74 := fun _ _ _ => ⟨_, by conv => lhs; reduce; try dsimp only [pLn]⟩
def P75 : Pl := (.n none .z (.n none (.n none .z (.n none (.n (some [11, 10, 9, 2, 1]) (.n none .z (.n none .z (.n none (.n (some [11, 10, 9, 2, 1]) (.n none .z (.n none .z (.n none (.r [[33, 26, 11, 10, 9, 7, 6, 2, 1], [38, 33, 26, 11, 10, 9, 7, 6, 2, 1], [39, 26, 11, 10, 9, 7, 6, 2, 1], [48, 41, 11, 10, 9, 7, 6, 2, 1], [58, 48, 41, 11, 10, 9, 6, 2, 1], [59, 41, 11, 10, 9, 6, 2, 1]]) .z))) .z) .z))) .z) .z)) .z))
def S75 : tE2 Tryz.prog P75 75 := fun _ _ _ _ => ⟨_, by conv => lhs; reduce; try dsimp only [pLn]⟩
def P76 : Pl := (.n none .z (.n none .z (.n none .z (.n none (.n none .z (.n none (.n (some [14, 13, 12, 4, 3]) .z .z) .z)) .z))))
def S76 : tE1 Tryz.prog P76 76 := fun _ _ _ => ⟨_, by conv => lhs; reduce; try dsimp only [pLn]⟩
def P81 : Pl := .z
def S81 : tE0 Tryz.prog P81 81 := fun _ _ => ⟨_, by conv => lhs; reduce; try dsimp only [pLn]⟩
def P82 : Pl := .z
def S82 : tE1 Tryz.prog P82 82 := fun _ _ _ => ⟨_, by conv => lhs; reduce; try dsimp only [pLn]⟩
def P83 : Pl := .z
def S83 : tE1 Tryz.prog P83 83 := fun _ _ _ => ⟨_, by conv => lhs; reduce; try dsimp only [pLn]⟩
def P84 : Pl := .z
def S84 : tE2 Tryz.prog P84 84 := fun _ _ _ _ => ⟨_, by conv => lhs; reduce; try dsimp only [pLn]⟩
def P85 : Pl := (.n none .z (.n none .z (.n none (.n none .z (.n none (.n none .z (.n none (.n none (.r [[4]]) .z) (.n none .z (.n none (.n none (.r [[4]]) .z) (.n none .z (.n none (.n none (.r [[4]]) .z) (.n none .z (.n none (.n none (.r [[4]]) .z) (.n none .z (.n none (.n none (.r [[4]]) .z) (.n none .z (.n none (.n none (.r [[4]]) .z) (.n none .z (.n none .z (.n none .z (.n none .z (.n none .z (.n none (.n none (.r [[4]]) .z) (.n none .z (.n none (.n none (.r [[4]]) .z) (.n none .z (.n none (.n none (.r [[4]]) .z) .z)))))))))))))))))))))) .z)) .z)))
def S85 : tE2 Tryz.prog P85 85 := fun _ _ _ _ => ⟨_, by conv => lhs; reduce; try dsimp only [pLn]⟩
def P86 : Pl := (.n none .z (.n none (.n none .z (.n none (.n none .z (.n none (.n none .z (.n none .z (.n none .z (.n (some [10]) .z .z)))) (.n none .z (.n none .z (.n none .z (.n none (.n none .z (.n none .z (.n (some [15]) .z .z))) .z)))))) .z)) .z))
def S86 : tE4 Tryz.prog P86 86 := fun _ _ _ _ _ _ => ⟨_, by conv => lhs; reduce; try dsimp only [pLn]⟩
def P87 : Pl := (.n none .z (.n none (.n none .z (.n none (.n (some [7, 6, 3, 0]) .z (.n none .z (.n (some [18, 6, 0]) .z .z))) .z)) .z))
def S87 : tE2 Tryz.prog P87 87 := fun _ _ _ _ => ⟨_, by conv => lhs; reduce; try dsimp only [pLn]⟩
def P88 : Pl := .z
def S88 : tE1 Tryz.prog P88 88 := fun _ _ _ => ⟨_, by conv => lhs; reduce; try dsimp only [pLn]⟩
def P89 : Pl := .z
def S89 : tE2 Tryz.prog P89 89 := fun _ _ _ _ => ⟨_, by conv => lhs; reduce; try dsimp only [pLn]⟩
def P93 : Pl := (.n none .z (.n none .z (.n none (.n none (.r [[17, 13, 3, 1], [20, 17, 13, 3, 1], [21, 13, 3, 1], [29, 23, 3, 1], [37, 31, 3, 1], [45, 39, 1]]) .z) (.n none (.r [[53, 50]]) .z))))
def S93 : tE1 Tryz.prog P93 93 := fun _ _ _ => ⟨_, by conv => lhs; reduce; try dsimp only [pLn]⟩
def P94 : Pl := (.n none .z (.n none (.n none .z (.n (some []) .z .z)) .z))
def S94 : tE3 Tryz.prog P94 94 := fun _ _ _ _ _ => ⟨_, by conv => lhs; reduce; try dsimp only [pLn]⟩
def P95 : Pl := (.n none .z (.n none (.n none .z (.n none (.n none .z (.n none (.n none .z (.n none .z (.n none .z (.n (some [7]) .z .z)))) (.n none .z (.n none (.n none .z (.n none (.n none (.r [[67, 60, 8, 3, 0]]) .z) .z)) (.n none .z (.n none (.n none .z (.n none .z (.n (some [10]) .z .z))) .z)))))) .z)) .z))
def S95 : tE2 Tryz.prog P95 95 := fun _ _ _ _ => ⟨_, by conv => lhs; reduce; try dsimp only [pLn]⟩
def P96 : Pl := (.n none .z (.n none .z (.n none (.n none .z (.n (some []) (.n (some [17, 14, 5, 3, 0]) .z (.n none .z (.n (some [64, 14, 5, 0]) .z (.n none .z (.n none .z (.n none .z (.n none .z (.n none (.n none .z (.n none .z (.n none .z (.n none (.r [[0]]) .z)))) .z)))))))) .z)) .z)))
def S96 : tE2 Tryz.prog P96 96 := fun _ _ _ _ => ⟨_, by conv => lhs; reduce; try dsimp only [pLn]⟩
def P97 : Pl := (.n none .z (.n none .z (.n none (.n none (.n (some [3, 0]) .z .z) .z) .z)))
def S97 : tE1 Tryz.prog P97 97 := fun _ _ _ => ⟨_, by conv => lhs; reduce; try dsimp only [pLn]⟩
def P98 : Pl := .z
def S98 : tE3 Tryz.prog P98 98 := fun _ _ _ _ _ => ⟨_, by conv => lhs; reduce; try dsimp only [pLn]⟩
def P99 : Pl := .z
def S99 : tE1 Tryz.prog P99 99 := fun _ _ _ => ⟨_, by conv => lhs; reduce; try dsimp only [pLn]⟩
def P100 : Pl := .z
def S100 : tE1 Tryz.prog P100 100 := fun _ _ _ => ⟨_, by conv => lhs; reduce; try dsimp only [pLn]⟩
def P101 : Pl := (.n none .z (.n none .z (.n none (.n none .z (.n none (.n (some [13, 12, 11, 5, 0]) .z .z) .z)) .z)))
def S101 : tE2 Tryz.prog P101 101 := fun _ _ _ _ => ⟨_, by conv => lhs; reduce; try dsimp only [pLn]⟩
def P102 : Pl := .z
def S102 : tE1 Tryz.prog P102 102 := fun _ _ _ => ⟨_, by conv => lhs; reduce; try dsimp only [pLn]⟩
def P103 : Pl := (.n none .z (.n none .z (.n none (.r [[21, 17, 5, 4, 1], [27, 23, 5, 1], [33, 29, 1], [39, 35, 1], [42, 39, 35], [43, 35]]) .z)))
def S103 : tE1 Tryz.prog P103 103 := fun _ _ _ => ⟨_, by conv => lhs; reduce; try dsimp only [pLn]⟩
def P104 : Pl := (.n none .z (.n none .z (.n none (.r [[4]]) .z)))
def S104 : tE2 Tryz.prog P104 104 := fun _ _ _ _ => ⟨_, by conv => lhs; reduce; try dsimp only [pLn]⟩
def P105 : Pl := (.n none .z (.n none (.r [[7, 5]]) .z))
def S105 : tE1 Tryz.prog P105 105 := fun _ _ _ => ⟨_, by conv => lhs; reduce; try dsimp only [pLn]⟩
def P106 : Pl := (.n none .z (.n none (.r [[7, 5]]) .z))
def S106 : tE1 Tryz.prog P106 106 := fun _ _ _ => ⟨_, by conv => lhs; reduce; try dsimp only [pLn]⟩
def P107 : Pl := .z
def S107 : tE1 Tryz.prog P107 107 := fun _ _ _ => ⟨_, by conv => lhs; reduce; try dsimp only [pLn]⟩
def P108 : Pl := (.n none .z (.n none (.n none (.r [[17, 13, 1, 0]]) .z) .z))
def S108 : tE2 Tryz.prog P108 108 := fun _ _ _ _ => ⟨_, by conv => lhs; reduce; try dsimp only [pLn]⟩
def P109 : Pl := .z
def S109 : tE2 Tryz.prog P109 109 := fun _ _ _ _ => ⟨_, by conv => lhs; reduce; try dsimp only [pLn]⟩
def P110 : Pl := .z
def S110 : tE1 Tryz.prog P110 110 := fun _ _ _ => ⟨_, by conv => lhs; reduce; try dsimp only [pLn]⟩
def P111 : Pl := (.n none .z (.n none (.n none .z (.n none (.n (some [9, 8, 7, 1, 0]) .z .z) .z)) .z))
def S111 : tE2 Tryz.prog P111 111 := fun _ _ _ _ => ⟨_, by conv => lhs; reduce; try dsimp only [pLn]⟩
def P112 : Pl := .z
def S112 : tE2 Tryz.prog P112 112 := fun _ _ _ _ => ⟨_, by conv => lhs; reduce; try dsimp only [pLn]⟩
def P113 : Pl := .z
def S113 : tE2 Tryz.prog P113 113 := fun _ _ _ _ => ⟨_, by conv => lhs; reduce; try dsimp only [pLn]⟩
def P114 : Pl := (.n none .z (.n none .z (.n none .z (.n none (.r [[17, 15, 9]]) .z))))
def S114 : tE3 Tryz.prog P114 114 := fun _ _ _ _ _ => ⟨_, by conv => lhs; reduce; try dsimp only [pLn]⟩
def P115 : Pl := (.n none .z (.n none .z (.n none .z (.n none (.r [[17, 15, 9]]) .z))))
def S115 : tE3 Tryz.prog P115 115 := fun _ _ _ _ _ => ⟨_, by conv => lhs; reduce; try dsimp only [pLn]⟩
def P116 : Pl := (.n none .z (.n none .z (.n none .z (.n none (.r [[17, 15, 9]]) .z))))
def S116 : tE3 Tryz.prog P116 116 := fun _ _ _ _ _ => ⟨_, by conv => lhs; reduce; try dsimp only [pLn]⟩
def P117 : Pl := (.n none .z (.n none .z (.n none .z (.n none (.r [[19, 17, 11]]) .z))))
def S117 : tE4 Tryz.prog P117 117 := fun _ _ _ _ _ _ => ⟨_, by conv => lhs; reduce; try dsimp only [pLn]⟩
def P118 : Pl := .z
def S118 : tE2 Tryz.prog P118 118 := fun _ _ _ _ => ⟨_, by conv => lhs; reduce; try dsimp only [pLn]⟩
def P119 : Pl := .z
def S119 : tE3 Tryz.prog P119 119 := fun _ _ _ _ _ => ⟨_, by conv => lhs; reduce; try dsimp only [pLn]⟩
def P120 : Pl := (.n none .z (.n none .z (.n none .z (.n none (.r [[17, 15, 9]]) .z))))
def S120 : tE3 Tryz.prog P120 120 := fun _ _ _ _ _ => ⟨_, by conv => lhs; reduce; try dsimp only [pLn]⟩
def P121 : Pl := .z
def S121 : tE3 Tryz.prog P121 121 := fun _ _ _ _ _ => ⟨_, by conv => lhs; reduce; try dsimp only [pLn]⟩
def P122 : Pl := (.n none .z (.n none .z (.n none (.n none (.r [[24, 22, 9, 8, 7, 4, 0]]) .z) .z)))
def S122 : tE3 Tryz.prog P122 122 := fun _ _ _ _ _ => ⟨_, by conv => lhs; reduce; try dsimp only [pLn]⟩
def P123 : Pl := (.n none .z (.n none .z (.n none .z (.n none (.r [[19, 17, 11]]) .z))))
def S123 : tE4 Tryz.prog P123 123 := fun _ _ _ _ _ _ => ⟨_, by conv => lhs; reduce; try dsimp only [pLn]⟩
def P124 : Pl := .z
def S124 : tE3 Tryz.prog P124 124 := fun _ _ _ _ _ => ⟨_, by conv => lhs; reduce; try dsimp only [pLn]⟩
def P125 : Pl := (.n none .z (.n none .z (.n none .z (.n none (.r [[17, 15, 9]]) .z))))
def S125 : tE3 Tryz.prog P125 125 := fun _ _ _ _ _ => ⟨_, by conv => lhs; reduce; try dsimp only [pLn]⟩
def P126 : Pl := .z
def S126 : tE4 Tryz.prog P126 126 := fun _ _ _ _ _ _ => ⟨_, by conv => lhs; reduce; try dsimp only [pLn]⟩
def P127 : Pl := (.n none .z (.n none (.n none (.r [[13, 8, 1, 0], [20, 15, 1, 0]]) .z) .z))
def S127 : tE2 Tryz.prog P127 127 := fun _ _ _ _ => ⟨_, by conv => lhs; reduce; try dsimp only [pLn]⟩
def P128 : Pl := .z
def S128 : tE3 Tryz.prog P128 128 := fun _ _ _ _ _ => ⟨_, by conv => lhs; reduce; try dsimp only [pLn]⟩
def P129 : Pl := .z
def S129 : tE2 Tryz.prog P129 129 := fun _ _ _ _ => ⟨_, by conv => lhs; reduce; try dsimp only [pLn]⟩
def P130 : Pl := (.n none .z (.n none .z (.n (some [7, 5, 1, 0]) (.n none (.r [[19, 17, 7, 5, 1, 0]]) .z) (.n (some [7, 1, 0]) .z (.n (some [7]) .z .z)))))
def S130 : tE2 Tryz.prog P130 130 := fun _ _ _ _ => ⟨_, by conv => lhs; reduce; try dsimp only [pLn]⟩
def P131 : Pl := (.n none .z (.n none .z (.n none (.r [[]]) .z)))
def S131 : tE3 Tryz.prog P131 131 := fun _ _ _ _ _ => ⟨_, by conv => lhs; reduce; try dsimp only [pLn]⟩
def P132 : Pl := .z
def S132 : tE1 Tryz.prog P132 132 := fun _ _ _ => ⟨_, by conv => lhs; reduce; try dsimp only [pLn]⟩
def P133 : Pl := .z
def S133 : tE1 Tryz.prog P133 133 := fun _ _ _ => ⟨_, by conv => lhs; reduce; try dsimp only [pLn]⟩
def P134 : Pl := .z
def S134 : tE2 Tryz.prog P134 134 := fun _ _ _ _ => ⟨_, by conv => lhs; reduce; try dsimp only [pLn]⟩
def P135 : Pl := .z
def S135 : tE1 Tryz.prog P135 135 := fun _ _ _ => ⟨_, by conv => lhs; reduce; try dsimp only [pLn]⟩
def P136 : Pl := (.n none .z (.n none (.n none (.n (some [0]) .z .z) .z) .z))
def S136 : tE1 Tryz.prog P136 136 := fun _ _ _ => ⟨_, by conv => lhs; reduce; try dsimp only [pLn]⟩
def P137 : Pl := .z
def S137 : tE2 Tryz.prog P137 137 := fun _ _ _ _ => ⟨_, by conv => lhs; reduce; try dsimp only [pLn]⟩
def P140 : Pl := (.n none .z (.n none .z (.n none (.n none .z (.n none (.n none .z (.n none .z (.n none .z (.n none .z (.n (some [15, 5, 4, 2, 0]) .z (.n none .z (.n none .z (.n none .z (.n none .z (.n none .z (.n none .z (.n none .z (.n none .z (.n none .z (.n none .z (.n none .z (.n none .z (.n none .z (.n (some [55, 5, 4, 2, 0]) .z .z))))))))))))))))))) .z)) .z)))
def S140 (_ : CV) (a0 : AV) (h : AH) : R :=
vR h 200 (.agg [(.str []), (iI 0), (iI 0), (iI 0), (.bool false)]) fun v0 h1 =>
jJ .eql a0 (iI 1) fun v2 =>
jL v2 (
jb [(.str []), (iI 0), (iI 0), (iI 0), (.bool false)] [(0, 1, (.str [115, 101, 116])), (1, 1, (iI 7)), (2, 1, (.int .i64 (.negSucc 0))), (3, 1, (.int .i64 (.negSucc 0))), (4, 1, (.bool true))] fun v3 =>
jV h1 v0 v3 5 fun h4 =>
jh h4 v0 5 fun v5 =>
some ((.tup [v5, (.bool true)]), h4)) (
jJ .eql a0 (iI 2) fun v6 =>
jL v6 (
jb [(.str []), (iI 0), (iI 0), (iI 0), (.bool false)] [(0, 1, (.str [109, 111, 118, 101])), (1, 1, (iI 7)), (2, 1, (iI 7)), (3, 1, (.int .i64 (.negSucc 0)))] fun v7 =>
jV h1 v0 v7 5 fun h8 =>
jh h8 v0 5 fun v9 =>
some ((.tup [v9, (.bool true)]), h8)) (
zA (α := u5_0 → AH → List Nat → R) (fun s10 h11 d12 =>
jL s10.1 (
jb [(.str []), (.str []), (.str []), (.str []), (.str [])] [(0, 1, (.str [97, 100, 100])), (1, 1, (.str [115, 117, 98])), (2, 1, (.str [109, 117, 108])), (3, 1, (.str [108, 101, 115, 115])), (4, 1, (.str [101, 113, 117, 97, 108]))] fun v14 =>
jJ .sub s10.2.2.2.2.1 (iI 3) fun v15 =>
gT v14 v15 5 1 fun v16 =>
jb [(.str []), (iI 0), (iI 0), (iI 0), (.bool false)] [(0, 1, v16), (1, 1, s10.2.2.1), (2, 1, s10.2.2.1), (3, 1, s10.2.2.1)] fun v17 =>
jV h11 s10.2.2.2.1 v17 5 fun h18 =>
jA d12 h18 fun h19 =>
jh h19 s10.2.2.2.1 5 fun v20 =>
some ((.tup [v20, (.bool true)]), h19)) (
jJ .eql s10.2.1 (iI 8) fun v21 =>
jL v21 (
jb [(.str []), (iI 0), (iI 0), (iI 0), (.bool false)] [(0, 1, (.str [108, 111, 97, 100])), (1, 1, s10.2.2.1), (2, 1, s10.2.2.1), (3, 1, (iI 15))] fun v22 =>
jV h11 s10.2.2.2.1 v22 5 fun h23 =>
jA d12 h23 fun h24 =>
jh h24 s10.2.2.2.1 5 fun v25 =>
some ((.tup [v25, (.bool true)]), h24)) (
jJ .eql s10.2.1 (iI 9) fun v26 =>
jL v26 (
jb [(.str []), (iI 0), (iI 0), (iI 0), (.bool false)] [(0, 1, (.str [115, 116, 111, 114, 101])), (1, 1, s10.2.2.1), (2, 1, s10.2.2.1), (3, 1, (iI 15))] fun v27 =>
jV h11 s10.2.2.2.1 v27 5 fun h28 =>
jA d12 h28 fun h29 =>
jh h29 s10.2.2.2.1 5 fun v30 =>
some ((.tup [v30, (.bool true)]), h29)) (
jJ .eql s10.2.1 (iI 10) fun v31 =>
jL v31 (
jb [(.str []), (iI 0), (iI 0), (iI 0), (.bool false)] [(0, 1, (.str [97, 108, 108, 111, 99])), (1, 1, s10.2.2.1), (2, 1, s10.2.2.1), (3, 1, (.int .i64 (.negSucc 0)))] fun v32 =>
jV h11 s10.2.2.2.1 v32 5 fun h33 =>
jA d12 h33 fun h34 =>
jh h34 s10.2.2.2.1 5 fun v35 =>
some ((.tup [v35, (.bool true)]), h34)) (
jJ .eql s10.2.1 (iI 11) fun v36 =>
jL v36 (
jb [(.str []), (iI 0), (iI 0), (iI 0), (.bool false)] [(0, 1, (.str [102, 114, 101, 101])), (1, 1, s10.2.2.1), (2, 1, (.int .i64 (.negSucc 0))), (3, 1, (.int .i64 (.negSucc 0)))] fun v37 =>
jV h11 s10.2.2.2.1 v37 5 fun h38 =>
jA d12 h38 fun h39 =>
jh h39 s10.2.2.2.1 5 fun v40 =>
some ((.tup [v40, (.bool true)]), h39)) (
jJ .eql s10.2.1 (iI 12) fun v41 =>
jL v41 (
jb [(.str []), (iI 0), (iI 0), (iI 0), (.bool false)] [(0, 1, (.str [106, 117, 109, 112])), (1, 1, (.int .i64 (.negSucc 0))), (2, 1, (.int .i64 (.negSucc 0))), (3, 1, (iI 40))] fun v42 =>
jV h11 s10.2.2.2.1 v42 5 fun h43 =>
jA d12 h43 fun h44 =>
jh h44 s10.2.2.2.1 5 fun v45 =>
some ((.tup [v45, (.bool true)]), h44)) (
jJ .eql s10.2.1 (iI 13) fun v46 =>
jL v46 (
jb [(.str []), (iI 0), (iI 0), (iI 0), (.bool false)] [(0, 1, (.str [122, 101, 114, 111])), (1, 1, s10.2.2.1), (2, 1, (.int .i64 (.negSucc 0))), (3, 1, (iI 40))] fun v47 =>
jV h11 s10.2.2.2.1 v47 5 fun h48 =>
jA d12 h48 fun h49 =>
jh h49 s10.2.2.2.1 5 fun v50 =>
some ((.tup [v50, (.bool true)]), h49)) (
zA (α := u5_0 → AH → List Nat → R) (fun s51 h52 d53 =>
jL s51.1 (
jb [(.str []), (.str []), (.str []), (.str []), (.str []), (.str []), (.str [])] [(0, 1, (.str [111, 112, 101, 110])), (1, 1, (.str [99, 108, 111, 115, 101])), (2, 1, (.str [117, 110, 100, 111])), (3, 1, (.str [101, 105, 116, 104, 101, 114])), (4, 1, (.str [111, 114])), (5, 1, (.str [100, 111, 110, 101])), (6, 1, (.str [114, 101, 116, 114, 121]))] fun v55 =>
jJ .sub s51.2.2.2.2.1 (iI 14) fun v56 =>
gT v55 v56 7 1 fun v57 =>
jb [(.str []), (iI 0), (iI 0), (iI 0), (.bool false)] [(0, 1, v57), (1, 1, (.int .i64 (.negSucc 0))), (2, 1, (.int .i64 (.negSucc 0))), (3, 1, (.int .i64 (.negSucc 0)))] fun v58 =>
jV h52 s51.2.2.2.1 v58 5 fun h59 =>
jA d53 h59 fun h60 =>
jh h60 s51.2.2.2.1 5 fun v61 =>
some ((.tup [v61, (.bool true)]), h60)) (
jJ .eql s51.2.1 (iI 21) fun v62 =>
jL v62 (
jb [(.str []), (iI 0), (iI 0), (iI 0), (.bool false)] [(0, 1, (.str [101, 109, 105, 116])), (1, 1, s51.2.2.1), (2, 1, (.int .i64 (.negSucc 0))), (3, 1, (.int .i64 (.negSucc 0)))] fun v63 =>
jV h52 s51.2.2.2.1 v63 5 fun h64 =>
jA d53 h64 fun h65 =>
jh h65 s51.2.2.2.1 5 fun v66 =>
some ((.tup [v66, (.bool true)]), h65)) (
jJ .eql s51.2.1 (iI 22) fun v67 =>
jL v67 (
jb [(.str []), (iI 0), (iI 0), (iI 0), (.bool false)] [(0, 1, (.str [102, 97, 105, 108])), (1, 1, (.int .i64 (.negSucc 0))), (2, 1, (.int .i64 (.negSucc 0))), (3, 1, (.int .i64 (.negSucc 0)))] fun v68 =>
jV h52 s51.2.2.2.1 v68 5 fun h69 =>
jA d53 h69 fun h70 =>
jh h70 s51.2.2.2.1 5 fun v71 =>
some ((.tup [v71, (.bool true)]), h70)) (
jJ .eql s51.2.1 (iI 23) fun v72 =>
jL v72 (
jJ .sub s51.2.2.1 (iI 1) fun v73 =>
jb [(.str []), (iI 0), (iI 0), (iI 0), (.bool false)] [(0, 1, (.str [99, 97, 108, 108])), (1, 1, (iI 12)), (2, 1, (iI 7)), (3, 1, v73)] fun v74 =>
jV h52 s51.2.2.2.1 v74 5 fun h75 =>
jA d53 h75 fun h76 =>
jh h76 s51.2.2.2.1 5 fun v77 =>
some ((.tup [v77, (.bool true)]), h76)) (
jb [(.str []), (iI 0), (iI 0), (iI 0), (.bool false)] [] fun v78 =>
jV h52 s51.2.2.2.1 v78 5 fun h79 =>
jA d53 h79 fun h80 =>
jh h80 s51.2.2.2.1 5 fun v81 =>
some ((.tup [v81, (.bool false)]), h80)))))) fun j54 =>
jJ .eql s10.2.1 (iI 14) fun v82 =>
jL v82 (
j54 (v82, s10.2.1, s10.2.2.1, s10.2.2.2.1, s10.2.2.2.2.1, ()) h11 d12) (
jJ .eql s10.2.1 (iI 15) fun v83 =>
jL v83 (
j54 (v83, s10.2.1, s10.2.2.1, s10.2.2.2.1, s10.2.2.2.2.1, ()) h11 d12) (
jJ .eql s10.2.1 (iI 16) fun v84 =>
jL v84 (
j54 (v84, s10.2.1, s10.2.2.1, s10.2.2.2.1, s10.2.2.2.2.1, ()) h11 d12) (
jJ .eql s10.2.1 (iI 17) fun v85 =>
jL v85 (
j54 (v85, s10.2.1, s10.2.2.1, s10.2.2.2.1, s10.2.2.2.2.1, ()) h11 d12) (
jJ .eql s10.2.1 (iI 18) fun v86 =>
jL v86 (
j54 (v86, s10.2.1, s10.2.2.1, s10.2.2.2.1, s10.2.2.2.2.1, ()) h11 d12) (
jJ .eql s10.2.1 (iI 19) fun v87 =>
jL v87 (
j54 (v87, s10.2.1, s10.2.2.1, s10.2.2.2.1, s10.2.2.2.2.1, ()) h11 d12) (
jJ .eql s10.2.1 (iI 20) fun v88 =>
j54 (v88, s10.2.1, s10.2.2.1, s10.2.2.2.1, s10.2.2.2.2.1, ()) h11 d12)))))))))))))) fun j13 =>
jJ .eql a0 (iI 3) fun v89 =>
jL v89 (
j13 (v89, a0, (iI 7), v0, a0, ()) h1 []) (
jJ .eql a0 (iI 4) fun v90 =>
jL v90 (
j13 (v90, a0, (iI 7), v0, a0, ()) h1 []) (
jJ .eql a0 (iI 5) fun v91 =>
jL v91 (
j13 (v91, a0, (iI 7), v0, a0, ()) h1 []) (
jJ .eql a0 (iI 6) fun v92 =>
jL v92 (
j13 (v92, a0, (iI 7), v0, a0, ()) h1 []) (
jJ .eql a0 (iI 7) fun v93 =>
j13 (v93, a0, (iI 7), v0, a0, ()) h1 []))))))
def W140 : WF := w_1 S140
theorem W140_ok : WOk Tryz.prog 140 W140 := Q8 (pl := P140) fun _ _ _ => by kernel_rfl
def P141 : Pl := (.n none .z (.n none (.r [[9, 7, 1, 0], [14, 11, 1, 0], [17, 14, 11], [18, 11]]) .z))
def S141 : tE2 Tryz.prog P141 141 := fun _ _ _ _ => ⟨_, by conv => lhs; reduce; try dsimp only [pLn]⟩
def P142 : Pl := (.n none .z (.n none (.n none (.r [[12, 7, 1, 0], [19, 14, 1, 0]]) .z) .z))
def S142 : tE2 Tryz.prog P142 142 := fun _ _ _ _ => ⟨_, by conv => lhs; reduce; try dsimp only [pLn]⟩
def P143 : Pl := .z
def S143 : tE2 Tryz.prog P143 143 := fun _ _ _ _ => ⟨_, by conv => lhs; reduce; try dsimp only [pLn]⟩
def P144 : Pl := (.n none .z (.n none (.n none (.r [[12, 10, 2, 1, 0]]) .z) (.n none .z (.n none (.n none (.r [[34, 31, 7, 2, 1, 0]]) .z) (.n none (.r [[]]) .z)))))
def S144 : tE3 Tryz.prog P144 144 := fun _ _ _ _ _ => ⟨_, by conv => lhs; reduce; try dsimp only [pLn]⟩
end
end Go.Proofs.YtdlfmpmpmkffjaaGreatDoor
