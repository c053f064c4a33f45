/- Printed by a program of mine: the bodies of the program's functions aa terms of the primitives of the abstract executor, each shown equal by the kernel. -/
import Derived.Test.YtdlfmpmpmkffjaaGreatDoorProg
import Derived.Test.YtdlfmpmpmkffjaaGreatDoorInterpWaysAe1
import Derived.KernelRfl
namespace Go.Proofs.YtdlfmpmpmkffjaaGreatDoor
open Go Go.Ae
abbrev u12_0 : Type := AV × AV × AV × AV × AV × AV × AV × AV × AV × AV × AV × AV × Unit
abbrev u11_0 : Type := AV × AV × AV × AV × AV × AV × AV × AV × AV × AV × AV × Unit
abbrev u9_0 : Type := AV × AV × AV × AV × AV × AV × AV × AV × AV × Unit
abbrev u8_0 : Type := AV × AV × AV × AV × AV × AV × AV × AV × Unit
abbrev u7_0 : Type := AV × AV × AV × AV × AV × AV × AV × Unit
abbrev u6_0 : Type := AV × AV × AV × AV × AV × AV × Unit
abbrev u5_0 : Type := AV × AV × AV × AV × AV × Unit
abbrev u4_0 : Type := AV × AV × AV × AV × Unit
abbrev u3_0 : Type := AV × AV × AV × Unit
abbrev u2_0 : Type := AV × AV × Unit
set_option maxRecDepth 100000
noncomputable section
def P3 : Pl := (.n none .z (.n none .z (.n none .z (.n none .z (.n none .z (.n none .z (.n none .z (.n none .z (.n none (.r [[33, 31, 6, 5, 2], [37, 35, 6, 2], [41, 39, 6, 2], [46, 43, 2], [51, 48, 2], [56, 53, 2], [62, 58, 2], [67, 64]]) .z)))))))))
def S3 (c : CV) (h : AH) : R :=
qG c (.fn 11 [] []) [(iI 40), (iI 9)] h fun v0 h1 =>
pEq .ptr false v0 .nilp fun v2 =>
qz v2 (
some ((.bool false), h1)) (
qm [(iI 0), (iI 0), (iI 0), (iI 0), (uU 0)] [(0, 1, (iI 1)), (4, 1, (uU 6))] fun v3 =>
qm [(iI 0), (iI 0), (iI 0), (iI 0), (uU 0)] [(0, 1, (iI 8)), (1, 1, (iI 1))] fun v4 =>
qm [(iI 0), (iI 0), (iI 0), (iI 0), (uU 0)] [(0, 1, (iI 21)), (1, 1, (iI 1))] fun v5 =>
qp h1 28 [(iI 0), (iI 0), (iI 0), (iI 0), (uU 0)] 3 [(0, 5, v3), (5, 5, v4), (10, 5, v5)] fun v6 h7 =>
qm [.nils] [(0, 1, v6)] fun v8 =>
qG c (.fn 12 [] []) [v8, v0, (iI 9)] h7 fun v9 h10 =>
pEq .ptr false v9 .nilp fun v11 =>
qz v11 (
some ((.bool false), h10)) (
qG c (.fn 13 [] []) [v9] h10 fun v12 h13 =>
qG c (.fn 14 [] []) [v0] h13 fun v14 h15 =>
qG c (.fn 15 [] []) [v0, (iI 6), (uU 5)] h15 fun _ h17 =>
qG c (.fn 13 [] []) [v9] h17 fun v18 h19 =>
qG c (.fn 16 [] []) [v9] h19 fun v20 h21 =>
qq .eql v12 (iI 1) fun v22 =>
qE (α := u5_0 → AH → R) (fun s23 h24 =>
qn s23.2.1 s23.1 (.bool false) fun v26 =>
qE (α := u4_0 → AH → R) (fun s27 h28 =>
qn s27.2.1 s27.1 (.bool false) fun v30 =>
qE (α := u4_0 → AH → R) (fun s31 h32 =>
qn s31.2.1 s31.1 (.bool false) fun v34 =>
qE (α := u3_0 → AH → R) (fun s35 h36 =>
qn s35.2.1 s35.1 (.bool false) fun v38 =>
qE (α := u3_0 → AH → R) (fun s39 h40 =>
qn s39.2.1 s39.1 (.bool false) fun v42 =>
qE (α := u3_0 → AH → R) (fun s43 h44 =>
qn s43.2.1 s43.1 (.bool false) fun v46 =>
qE (α := u3_0 → AH → R) (fun s47 h48 =>
qn s47.2.1 s47.1 (.bool false) fun v50 =>
qE (α := u2_0 → AH → R) (fun s51 h52 =>
qn s51.2.1 s51.1 (.bool false) fun v54 =>
some (v54, h52)) fun j53 =>
qi v50 true (
qG c (.fn 21 [] []) [s47.2.2.1] h48 fun v55 h56 =>
qq .eql v55 (iI 0) fun v57 =>
j53 (v57, v50, ()) h56) (
j53 (.undef, v50, ()) h48)) fun j49 =>
qi v46 true (
qG c (.fn 20 [] []) [s43.2.2.1] h44 fun v58 h59 =>
q9 v58 fun v60 =>
qq .eql v60 (iI 8) fun v61 =>
j49 (v61, v46, s43.2.2.1, ()) h59) (
j49 (.undef, v46, s43.2.2.1, ()) h44)) fun j45 =>
qi v42 true (
qG c (.fn 19 [] []) [s39.2.2.1] h40 fun v62 h63 =>
qq .eql v62 (iI 3) fun v64 =>
j45 (v64, v42, s39.2.2.1, ()) h63) (
j45 (.undef, v42, s39.2.2.1, ()) h40)) fun j41 =>
qi v38 true (
qG c (.fn 18 [] []) [s35.2.2.1] h36 fun v65 h66 =>
qq .eql v65 (iI 6) fun v67 =>
j41 (v67, v38, s35.2.2.1, ()) h66) (
j41 (.undef, v38, s35.2.2.1, ()) h36)) fun j37 =>
qi v34 true (
qG c (.fn 17 [] []) [s31.2.2.1] h32 fun v68 h69 =>
YL .eql v68 (.str [53]) fun v70 =>
j37 (v70, v34, s31.2.2.2.1, ()) h69) (
j37 (.undef, v34, s31.2.2.2.1, ()) h32)) fun j33 =>
qi v30 true (
pEq .ptr true s27.2.2.1 .nilp fun v71 =>
j33 (v71, v30, s27.2.2.1, s27.2.2.2.1, ()) h28) (
j33 (.undef, v30, s27.2.2.1, s27.2.2.2.1, ()) h28)) fun j29 =>
qi v26 true (
qq .eql s23.2.2.2.1 (iI 2) fun v72 =>
j29 (v72, v26, s23.2.2.1, s23.2.2.2.2.1, ()) h24) (
j29 (.undef, v26, s23.2.2.1, s23.2.2.2.2.1, ()) h24)) fun j25 =>
qi v22 true (
qq .eql v14 (iI 6) fun v73 =>
j25 (v73, v22, v20, v18, v9, ()) h21) (
j25 (.undef, v22, v20, v18, v9, ()) h21)))
def W3 : WF := w_0 S3
theorem W3_ok : WOk Tryz.prog 3 W3 := Gu (pl := P3) fun _ _ => by kernel_rfl
def P6 : Pl := (.n none .z (.n none .z (.n none .z (.n none .z (.n none (.r [[19, 18, 17, 16, 15, 6]]) (.n (some [19, 18, 17, 16, 15, 6]) .z (.n none (.r [[19, 18, 17, 16, 15, 6]]) (.n none .z (.n none .z (.n (some [21, 20, 15]) .z (.n none .z (.n none .z (.n none .z (.n none .z (.n none (.r [[103, 98]]) .z)))))))))))))))
def S6 (c : CV) (a0 a1 a2 a3 a4 a5 a6 : AV) (h : AH) : R :=
qG c (.fn 3 [] []) [] h fun v0 h1 =>
pUn .not v0 fun v2 =>
qz v2 (
some ((.bool false), h1)) (
qG c (.fn 22 [] []) [a3, a4, a5] h1 fun v3 h4 =>
qG c (.fn 23 [] []) [a0, (iI 10), (.bool true)] h4 fun v5 h6 =>
qG c (.fn 23 [] []) [a1, (iI 11), (.bool true)] h6 fun v7 h8 =>
qG c (.fn 23 [] []) [a2, (iI 10), (.bool true)] h8 fun v9 h10 =>
jX h10 31 (.agg [.nils]) fun v11 h12 =>
jX h12 31 (.agg [.nils]) fun v13 h14 =>
jX h14 31 (.agg [.nils]) fun v15 h16 =>
qy h16 v11 v5 1 fun h17 =>
qy h17 v13 v7 1 fun h18 =>
qy h18 v15 v9 1 fun h19 =>
qE (α := u6_0 → AH → R) (fun s20 h21 =>
qE (α := u6_0 → AH → List Nat → R) (fun s23 h24 d25 =>
qE (α := u6_0 → AH → R) (fun s27 h28 =>
qG c (.fn 35 [] []) [s27.1] h28 fun v30 h31 =>
jX h31 31 (.agg [.nils]) fun v32 h33 =>
qy h33 v32 v30 1 fun h34 =>
qR h34 s27.2.2.2.1 1 fun v35 =>
qR h34 s27.2.1 1 fun v36 =>
qp h34 31 [.nils] 2 [(0, 1, v35), (1, 1, v36)] fun v37 h38 =>
qG c (.fn 35 [] []) [v37] h38 fun v39 h40 =>
jX h40 31 (.agg [.nils]) fun v41 h42 =>
qy h42 v41 v39 1 fun h43 =>
qE (α := u3_0 → AH → List Nat → R) (fun s44 h45 d46 =>
qR h45 s44.2.1 1 fun v48 =>
qG c (.fn 37 [] []) [v48] h45 fun v49 h50 =>
qD v49 0 fun _ =>
qD v49 1 fun v52 =>
qq .neq v52 (iI 0) fun v53 =>
qz v53 (
qq .eql v52 (iI 9) fun v54 =>
qT d46 h50 fun h55 =>
some (v54, h55)) (
qR h50 s44.2.1 1 fun v56 =>
qG c (.fn 38 [] []) [v56, s44.2.2.1, (iI 400)] h50 fun v57 h58 =>
qD v57 0 fun v59 =>
qD v57 1 fun v60 =>
qD v57 2 fun v61 =>
qR h58 s44.1 1 fun v62 =>
qG c (.fn 38 [] []) [v62, s44.2.2.1, (iI 400)] h58 fun v63 h64 =>
qD v63 0 fun v65 =>
qD v63 1 fun v66 =>
qD v63 2 fun v67 =>
qq .neq v59 (iI 2) fun v68 =>
qz v68 (
qq .eql v59 (iI 4) fun v69 =>
qT d46 h64 fun h70 =>
some (v69, h70)) (
qq .eql v65 (iI 2) fun v71 =>
qE (α := u2_0 → AH → R) (fun s72 h73 =>
qn s72.2.1 s72.1 (.bool false) fun v75 =>
qT d46 h73 fun h76 =>
some (v75, h76)) fun j74 =>
qi v71 true (
qG c (.fn 39 [] []) [v60, v66, v61, v67] h64 fun v77 h78 =>
j74 (v77, v71, ()) h78) (
j74 (.undef, v71, ()) h64)))) fun j47 =>
qz s27.2.2.2.2.2.1 (
qR h43 s27.2.2.2.1 1 fun v79 =>
qR h43 s27.2.2.1 1 fun v80 =>
qp h43 31 [.nils] 2 [(0, 1, v79), (1, 1, v80)] fun v81 h82 =>
qG c (.fn 35 [] []) [v81] h82 fun v83 h84 =>
qy h84 v41 v83 1 fun h85 =>
j47 (v41, v32, s27.2.2.2.2.1, ()) h85 d25) (
j47 (v41, v32, s27.2.2.2.2.1, ()) h43 d25)) fun j29 =>
qG c (.fn 36 [] []) [(iI 18)] h24 fun v86 h87 =>
qR h87 s23.2.1 1 fun v88 =>
qG c (.fn 36 [] []) [(iI 19)] h87 fun v89 h90 =>
qp h90 31 [.nils] 3 [(0, 1, v86), (1, 1, v88), (2, 1, v89)] fun v91 h92 =>
q8 h92 31 1 s23.1 v91 fun v93 h94 =>
zx s23.2.1 (some 1) v88 h87 h90 h24.nx <|
zx s23.2.1 (some 1) v88 h24 h87 h24.nx <|
j29 (v93, s23.2.1, s23.2.2.1, s23.2.2.2.1, s23.2.2.2.2.1, s23.2.2.2.2.2.1, ()) h94) fun j26 =>
pUn .not s20.2.2.2.2.2.1 fun v95 =>
qz v95 (
qG c (.fn 36 [] []) [(iI 20)] h21 fun v96 h97 =>
qp h97 31 [.nils] 1 [(0, 1, v96)] fun v98 h99 =>
q8 h99 31 1 s20.1 v98 fun v100 h101 =>
j26 (v100, s20.2.1, s20.2.2.1, s20.2.2.2.1, s20.2.2.2.2.1, s20.2.2.2.2.2.1, ()) h101 []) (
j26 (s20.1, s20.2.1, s20.2.2.1, s20.2.2.2.1, s20.2.2.2.2.1, s20.2.2.2.2.2.1, ()) h21 [])) fun j22 =>
qR h19 v11 1 fun v102 =>
qG c (.fn 36 [] []) [(iI 17)] h19 fun v103 h104 =>
qR h104 v13 1 fun v105 =>
qp h104 31 [.nils] 3 [(0, 1, v102), (1, 1, v103), (2, 1, v105)] fun v106 h107 =>
zx v13 (some 1) v105 h19 h104 h19.nx <|
zx v11 (some 1) v102 h19 h104 h19.nx <|
j22 (v106, v15, v13, v11, v3, a6, ()) h107)
def W6 : WF := w_7 S6
theorem W6_ok : WOk Tryz.prog 6 W6 := qVc (pl := P6) fun _ _ _ _ _ _ _ _ _ => by kernel_rfl
def P11 : Pl := .z
def S11 (c : CV) (a0 a1 : AV) (h : AH) : R :=
pMM false [a0, (iI 256)] fun v0 =>
pMM true [(iI 32), v0] fun v1 =>
y8 h 105 [(uU 0), (.bool false)] v1 v1 fun v2 h3 =>
qG c (.fn 47 [] []) [a1] h3 fun v4 h5 =>
qm [.nils, .nils, .nilp, (iI 0)] [(0, 1, v2), (2, 1, v4)] fun v6 =>
jX h5 96 v6 fun v7 h8 =>
some (v7, h8)
def W11 : WF := w_2 S11
theorem W11_ok : WOk Tryz.prog 11 W11 := jC (pl := P11) fun _ _ _ _ => by kernel_rfl
def P12 : Pl := (.n none .z (.n none .z (.n none .z (.n none (.r [[6]]) .z))))
def S12 (c : CV) (a0 a1 a2 : AV) (h : AH) : R :=
jX h 31 a0 fun v0 h1 =>
qJ v0 0 fun v2 =>
qX h1 v2 fun v3 =>
q8 h1 28 5 .nils v3 fun v4 h5 =>
qJ v0 0 fun v6 =>
qy h5 v6 v4 1 fun h7 =>
qR h7 v0 1 fun v8 =>
qG c (.fn 37 [] []) [v8] h7 fun v9 h10 =>
qD v9 0 fun _ =>
qD v9 1 fun v12 =>
qE (α := AV × Unit → AH → R) (fun s13 h14 =>
some (s13.1, h14)) fun j15 =>
qR h10 v0 1 fun v16 =>
qR h10 v0 1 fun v17 =>
qG c (.fn 48 [] []) [v17] h10 fun v18 h19 =>
qG c (.fn 49 [] []) [] h19 fun v20 h21 =>
pMM false [a2, (iI 400)] fun v22 =>
pMM true [(iI 0), v22] fun v23 =>
qm [.nils, .nilp, .nils, (iI 0), (iI 0), (iI 0), (uU 0), (uU 0), (uU 0), (uU 0), (uU 0), (uU 0), (uU 0), (uU 0), .nilp, (iI 0), (iI 0), (iI 0), .nils] [(0, 1, v16), (1, 1, a1), (2, 1, v18), (3, 1, v12), (14, 1, v20), (17, 1, v23)] fun v24 =>
jX h21 100 v24 fun v25 h26 =>
zx v0 (some 1) v16 h19 h21 h10.nx <|
zx v0 (some 1) v16 h10 h19 h10.nx <|
j15 (v25, ()) h26
def W12 : WF := w_3 S12
theorem W12_ok : WOk Tryz.prog 12 W12 := zZ (pl := P12) fun _ _ _ _ _ => by kernel_rfl
def P13 : Pl := (.n none .z (.n none (.n none (.n (some [0]) (.n none .z (.n (some [0]) (.n none .z (.n none .z (.n none .z (.n none .z (.n (some [0]) .z .z))))) .z)) .z) .z) .z))
def S13 (c : CV) (a0 : AV) (h : AH) : R :=
zJ (σ := AV × Unit) NN (fun i3 s0 h1 d2 =>
qF s0.1 fun v4 =>
qJ v4 5 fun v5 =>
qX h1 v5 fun v6 =>
qq .eql v6 (iI 0) fun v7 =>
qz v7 (
qE (α := AV × Unit → AH → List Nat → R) (fun s8 h9 d10 =>
i3 (s8.1, ()) h9 d10) fun j11 =>
qF s0.1 fun v12 =>
qJ v12 3 fun v13 =>
qX h1 v13 fun v14 =>
qq .neq v14 (iI 0) fun v15 =>
qz v15 (
qF s0.1 fun v16 =>
qJ v16 3 fun v17 =>
qX h1 v17 fun v18 =>
qG c (.fn 50 [] []) [s0.1, v18] h1 fun _ h20 =>
j11 (s0.1, ()) h20 d2) (
qF s0.1 fun v21 =>
qJ v21 15 fun v22 =>
qX h1 v22 fun v23 =>
qF s0.1 fun v24 =>
qJ v24 0 fun v25 =>
qJ v25 0 fun v26 =>
qX h1 v26 fun v27 =>
q9 v27 fun v28 =>
qq .eql v23 v28 fun v29 =>
qz v29 (
qF s0.1 fun v30 =>
qJ v30 5 fun v31 =>
qy h1 v31 (iI 2) 1 fun h32 =>
j11 (s0.1, ()) h32 d2) (
qF s0.1 fun v33 =>
qJ v33 17 fun v34 =>
qX h1 v34 fun v35 =>
qq .eql v35 (iI 0) fun v36 =>
qz v36 (
qG c (.fn 50 [] []) [s0.1, (iI 6)] h1 fun _ h38 =>
j11 (s0.1, ()) h38 d2) (
qF s0.1 fun v39 =>
qJ v39 15 fun v40 =>
qX h1 v40 fun v41 =>
qq .add v41 (iI 1) fun v42 =>
qF s0.1 fun v43 =>
qJ v43 16 fun v44 =>
qy h1 v44 v42 1 fun h45 =>
qF s0.1 fun v46 =>
qJ v46 0 fun v47 =>
qJ v47 0 fun v48 =>
qX h45 v48 fun v49 =>
qF s0.1 fun v50 =>
qJ v50 15 fun v51 =>
qX h45 v51 fun v52 =>
jz v49 v52 5 fun v53 =>
qR h45 v53 5 fun v54 =>
qG c (.fn 51 [] []) [s0.1, v54] h45 fun v55 h56 =>
qE (α := AV × Unit → AH → List Nat → R) (fun s57 h58 d59 =>
j11 (s57.1, ()) h58 d59) fun j60 =>
qq .eql v55 (iI 0) fun v61 =>
qz v61 (
qF s0.1 fun v62 =>
qJ v62 16 fun v63 =>
qX h56 v63 fun v64 =>
qF s0.1 fun v65 =>
qJ v65 15 fun v66 =>
qy h56 v66 v64 1 fun h67 =>
qF s0.1 fun v68 =>
qJ v68 17 fun v69 =>
qX h67 v69 fun v70 =>
qq .sub v70 (iI 1) fun v71 =>
qF s0.1 fun v72 =>
qJ v72 17 fun v73 =>
qy h67 v73 v71 1 fun h74 =>
j60 (s0.1, ()) h74 d2) (
qq .eql v55 (iI 11) fun v75 =>
qz v75 (
qT d2 h56 fun h76 =>
some ((iI 1), h76)) (
qG c (.fn 50 [] []) [s0.1, v55] h56 fun _ h78 =>
j60 (s0.1, ()) h78 d2)))))) (
qF s0.1 fun v79 =>
qJ v79 5 fun v80 =>
qX h1 v80 fun v81 =>
qT d2 h1 fun h82 =>
some (v81, h82))) (a0, ()) h []
def W13 : WF := w_1 S13
theorem W13_ok : WOk Tryz.prog 13 W13 := jk (pl := P13) fun _ _ _ => by kernel_rfl
def P14 : Pl := .z
def S14 (_ : CV) (a0 : AV) (h : AH) : R :=
qF a0 fun v0 =>
qJ v0 3 fun v1 =>
qX h v1 fun v2 =>
some (v2, h)
def W14 : WF := w_1 S14
theorem W14_ok : WOk Tryz.prog 14 W14 := jk (pl := P14) fun _ _ _ => by kernel_rfl
def P15 : Pl := .z
def S15 (c : CV) (a0 a1 a2 : AV) (h : AH) : R :=
qG c (.fn 52 [] []) [a0, a1] h fun v0 h1 =>
pUn .not v0 fun v2 =>
qz v2 (
some ((iI 2), h1)) (
qF a0 fun v3 =>
qJ v3 0 fun v4 =>
qX h1 v4 fun v5 =>
jz v5 a1 2 fun v6 =>
qR h1 v6 2 fun v7 =>
jX h1 105 (.agg [(uU 0), (.bool false)]) fun v8 h9 =>
qy h9 v8 v7 2 fun h10 =>
qJ v8 1 fun v11 =>
qX h10 v11 fun v12 =>
qz v12 (
qJ v8 0 fun v13 =>
qX h10 v13 fun v14 =>
qq .neq v14 a2 fun v15 =>
qz v15 (
some ((iI 14), h10)) (
some ((iI 0), h10))) (
qF a0 fun v16 =>
qJ v16 0 fun v17 =>
qX h10 v17 fun v18 =>
qm [(uU 0), (.bool false)] [(0, 1, a2), (1, 1, (.bool true))] fun v19 =>
jz v18 a1 2 fun v20 =>
qy h10 v20 v19 2 fun h21 =>
qF a0 fun v22 =>
qJ v22 1 fun v23 =>
qX h21 v23 fun v24 =>
qp h21 3 [(iI 0)] 1 [(0, 1, a1)] fun v25 h26 =>
q8 h26 3 1 v24 v25 fun v27 h28 =>
qF a0 fun v29 =>
qJ v29 1 fun v30 =>
qy h28 v30 v27 1 fun h31 =>
some ((iI 0), h31)))
def W15 : WF := w_3 S15
theorem W15_ok : WOk Tryz.prog 15 W15 := zZ (pl := P15) fun _ _ _ _ _ => by kernel_rfl
def P16 : Pl := .z
def S16 (c : CV) (a0 : AV) (h : AH) : R :=
qF a0 fun v0 =>
qJ v0 14 fun v1 =>
qX h v1 fun v2 =>
qG c (.fn 53 [] []) [v2] h fun v3 h4 =>
some (v3, h4)
def W16 : WF := w_1 S16
theorem W16_ok : WOk Tryz.prog 16 W16 := jk (pl := P16) fun _ _ _ => by kernel_rfl
def P17 : Pl := (.n none .z (.n none .z (.n none (.n none .z (.n none (.n (some [17, 16, 15, 3]) .z .z) .z)) .z)))
def S17 (c : CV) (a0 : AV) (h : AH) : R :=
qF a0 fun v0 =>
qJ v0 0 fun v1 =>
qX h v1 fun v2 =>
q9 v2 fun v3 =>
y8 h 9 [(.str [])] v3 v3 fun v4 h5 =>
qF a0 fun v6 =>
qJ v6 0 fun v7 =>
qX h5 v7 fun v8 =>
q9 v8 fun v9 =>
zJ (σ := u4_0) NN (fun i13 s10 h11 d12 =>
qq .lss s10.1 s10.2.1 fun v14 =>
qz v14 (
jz s10.2.2.1 s10.1 1 fun v15 =>
qX h11 v15 fun v16 =>
qG c (.fn 54 [] []) [v16] h11 fun v17 h18 =>
jz s10.2.2.2.1 s10.1 1 fun v19 =>
qy h18 v19 v17 1 fun h20 =>
qq .add s10.1 (iI 1) fun v21 =>
i13 (v21, s10.2.1, s10.2.2.1, s10.2.2.2.1, ()) h20 d12) (
qG c (.fn 55 [] []) [s10.2.2.2.1, (.str [32])] h11 fun v22 h23 =>
qT d12 h23 fun h24 =>
some (v22, h24))) ((iI 0), v9, v8, v4, ()) h5 []
def W17 : WF := w_1 S17
theorem W17_ok : WOk Tryz.prog 17 W17 := jk (pl := P17) fun _ _ _ => by kernel_rfl
def P18 : Pl := .z
def S18 (_ : CV) (a0 : AV) (h : AH) : R :=
qF a0 fun v0 =>
qJ v0 17 fun v1 =>
qX h v1 fun v2 =>
some (v2, h)
def W18 : WF := w_1 S18
theorem W18_ok : WOk Tryz.prog 18 W18 := jk (pl := P18) fun _ _ _ => by kernel_rfl
def P19 : Pl := .z
def S19 (_ : CV) (a0 : AV) (h : AH) : R :=
qF a0 fun v0 =>
qJ v0 15 fun v1 =>
qX h v1 fun v2 =>
some (v2, h)
def W19 : WF := w_1 S19
theorem W19_ok : WOk Tryz.prog 19 W19 := jk (pl := P19) fun _ _ _ => by kernel_rfl
def P20 : Pl := .z
def S20 (_ : CV) (a0 : AV) (h : AH) : R :=
qF a0 fun v0 =>
qJ v0 6 fun v1 =>
yy 8 1 v1 none none fun v2 =>
q8 h 26 1 .nils v2 fun v3 h4 =>
some (v3, h4)
def W20 : WF := w_1 S20
theorem W20_ok : WOk Tryz.prog 20 W20 := jk (pl := P20) fun _ _ _ => by kernel_rfl
def P21 : Pl := .z
def S21 (_ : CV) (a0 : AV) (h : AH) : R :=
qF a0 fun v0 =>
qJ v0 4 fun v1 =>
qX h v1 fun v2 =>
some (v2, h)
def W21 : WF := w_1 S21
theorem W21_ok : WOk Tryz.prog 21 W21 := jk (pl := P21) fun _ _ _ => by kernel_rfl
def P22 : Pl := (.n none .z (.n none .z (.n none .z (.n none (.n none .z (.n none (.n (some [8, 7, 2, 1]) (.n none (.n none (.r [[23, 21, 8, 7, 2, 1]]) .z) .z) .z) .z)) (.n none .z (.n none (.n none .z (.n (some [7]) (.n (some [10, 9, 7, 2]) (.n none (.n none (.r [[42, 40, 10, 9, 7, 2]]) .z) (.n none (.n none (.n none .z (.n none .z (.n none .z (.n (some [11, 10, 9, 7, 2]) .z .z)))) .z) .z)) .z) .z)) .z))))))
def S22 (c : CV) (a0 a1 a2 : AV) (h : AH) : R :=
qG c (.fn 56 [] []) [a0, (iI 32), (iI 80)] h fun v0 h1 =>
y8 h1 26 [(uU 0)] v0 v0 fun v2 h3 =>
jz v2 (iI 5) 1 fun v4 =>
qy h3 v4 (uU 14) 1 fun h5 =>
zJ (σ := u4_0) NN (fun i9 s6 h7 d8 =>
q9 s6.2.2.2.1 fun v10 =>
qq .lss s6.1 v10 fun v11 =>
qE (α := u6_0 → AH → R) (fun s12 h13 =>
qn s12.2.1 s12.1 (.bool false) fun v15 =>
qz v15 (
qq .add (iI 6) s12.2.2.1 fun v16 =>
jz s12.2.2.2.2.2.1 s12.2.2.1 1 fun v17 =>
qX h13 v17 fun v18 =>
qq .rem v18 (uU 90) fun v19 =>
jz s12.2.2.2.1 v16 1 fun v20 =>
qy h13 v20 v19 1 fun h21 =>
qq .add s12.2.2.1 (iI 1) fun v22 =>
i9 (v22, s12.2.2.2.1, s12.2.2.2.2.1, s12.2.2.2.2.2.1, ()) h21 d8) (
qE (α := AV × Unit → AH → List Nat → R) (fun s23 h24 d25 =>
qT d25 h24 fun h27 =>
some (s23.1, h27)) fun j26 =>
zJ (σ := u4_0) NN (fun i31 s28 h29 d30 =>
q9 s28.2.2.2.1 fun v32 =>
qq .lss s28.1 v32 fun v33 =>
qE (α := u6_0 → AH → R) (fun s34 h35 =>
qn s34.2.1 s34.1 (.bool false) fun v37 =>
qz v37 (
jz s34.2.2.2.2.2.1 s34.2.2.1 1 fun v38 =>
qX h35 v38 fun v39 =>
qq .rem v39 (.int .u8 (.ofNat 3)) fun v40 =>
jR .i64 v40 fun v41 =>
qq .add v41 (iI 1) fun v42 =>
qq .add s34.2.2.2.1 (iI 1) fun v43 =>
jR .u64 v42 fun v44 =>
xd .shl (iI 1) v44 fun v45 =>
qq .add v43 v45 fun v46 =>
q9 s34.2.2.2.2.1 fun v47 =>
qq .gtr v46 v47 fun v48 =>
qz v48 (
j26 (s34.2.2.2.2.1, ()) h35 d30) (
jR .u64 v42 fun v49 =>
jz s34.2.2.2.2.1 s34.2.2.2.1 1 fun v50 =>
qy h35 v50 v49 1 fun h51 =>
qE (α := u5_0 → AH → List Nat → R) (fun s52 h53 d54 =>
qq .add s52.2.2.1 (iI 1) fun v56 =>
jR .u64 s52.1 fun v57 =>
xd .shl (iI 1) v57 fun v58 =>
qq .add v56 v58 fun v59 =>
jR .u64 v59 fun v60 =>
jz s52.2.2.2.1 (iI 5) 1 fun v61 =>
qy h53 v61 v60 1 fun h62 =>
qq .add s52.2.1 (iI 1) fun v63 =>
i31 (v63, v59, s52.2.2.2.1, s52.2.2.2.2.1, ()) h62 d54) fun j55 =>
jz s34.2.2.2.2.2.1 s34.2.2.1 1 fun v64 =>
qX h51 v64 fun v65 =>
qq .and v65 (.int .u8 (.ofNat 16)) fun v66 =>
qq .gtr v66 (.int .u8 (.ofNat 0)) fun v67 =>
qz v67 (
qq .add v42 (iI 8) fun v68 =>
jR .u64 v68 fun v69 =>
jz s34.2.2.2.2.1 s34.2.2.2.1 1 fun v70 =>
qy h51 v70 v69 1 fun h71 =>
j55 (v42, s34.2.2.1, s34.2.2.2.1, s34.2.2.2.2.1, s34.2.2.2.2.2.1, ()) h71 d30) (
jz s34.2.2.2.2.2.1 s34.2.2.1 1 fun v72 =>
qX h51 v72 fun v73 =>
qq .and v73 (.int .u8 (.ofNat 32)) fun v74 =>
qq .gtr v74 (.int .u8 (.ofNat 0)) fun v75 =>
qz v75 (
qq .add s34.2.2.2.1 (iI 1) fun v76 =>
qq .add (iI 1) v42 fun v77 =>
qq .sub v77 (iI 1) fun v78 =>
jz s34.2.2.2.2.1 v78 1 fun v79 =>
qX h51 v79 fun v80 =>
jz s34.2.2.2.2.1 v76 1 fun v81 =>
qy h51 v81 v80 1 fun h82 =>
qq .add (iI 1) v42 fun v83 =>
qq .sub v83 (iI 1) fun v84 =>
qq .add s34.2.2.2.1 (iI 1) fun v85 =>
jR .u64 v85 fun v86 =>
jz s34.2.2.2.2.1 v84 1 fun v87 =>
qy h82 v87 v86 1 fun h88 =>
j55 (v42, s34.2.2.1, s34.2.2.2.1, s34.2.2.2.2.1, s34.2.2.2.2.2.1, ()) h88 d30) (
j55 (v42, s34.2.2.1, s34.2.2.2.1, s34.2.2.2.2.1, s34.2.2.2.2.2.1, ()) h51 d30)))) (
j26 (s34.2.2.2.2.1, ()) h35 d30)) fun j36 =>
qi v33 true (
qq .lss s28.1 (iI 8) fun v89 =>
j36 (v89, v33, s28.1, s28.2.1, s28.2.2.1, s28.2.2.2.1, ()) h29) (
j36 (.undef, v33, s28.1, s28.2.1, s28.2.2.1, s28.2.2.2.1, ()) h29)) ((iI 0), (iI 14), s12.2.2.2.1, s12.2.2.2.2.1, ()) h13 d8)) fun j14 =>
qi v11 true (
qq .lss s6.1 (iI 8) fun v90 =>
j14 (v90, v11, s6.1, s6.2.1, s6.2.2.1, s6.2.2.2.1, ()) h7) (
j14 (.undef, v11, s6.1, s6.2.1, s6.2.2.1, s6.2.2.2.1, ()) h7)) ((iI 0), v2, a2, a1, ()) h5 []
def W22 : WF := w_3 S22
theorem W22_ok : WOk Tryz.prog 22 W22 := zZ (pl := P22) fun _ _ _ _ _ => by kernel_rfl
def P23 : Pl := (.n none .z (.n none .z (.n none .z (.n none (.n none .z (.n (some [8, 7, 6]) (.n (some [9, 8, 7, 6, 2, 1, 0]) (.n none .z (.n none (.n none (.n none .z (.n none .z (.n none .z (.n none .z (.n (some [9, 8, 7, 6, 2, 1, 0]) (.n none (.r [[46, 44, 12, 11, 10, 9, 8, 7, 6, 2, 1, 0]]) (.n none .z (.n none (.r [[60, 58, 12, 11, 10, 9, 8, 7, 6, 2, 1, 0], [64, 62, 12, 11, 10, 9, 8, 7, 6, 2, 1, 0]]) (.n none .z (.n none (.r [[78, 76, 12, 11, 10, 9, 8, 7, 6, 2, 1, 0], [82, 80, 12, 11, 10, 9, 8, 7, 6, 2, 1, 0]]) (.n none .z (.n none (.r [[95, 93, 12, 11, 10, 9, 8, 7, 6, 2, 1, 0], [103, 97, 12, 11, 10, 9, 8, 7, 6, 2, 1, 0]]) (.n none .z (.n none (.r [[114, 112, 12, 11, 10, 9, 8, 7, 6, 2, 1, 0], [118, 116, 12, 11, 10, 9, 8, 7, 6, 2, 1, 0], [122, 120, 12, 10, 9, 8, 7, 6, 2, 1, 0]]) (.n none .z (.n none (.r [[140, 138, 12, 10, 9, 8, 7, 6, 2, 1, 0]]) (.n none .z (.n none (.r [[158, 156, 12, 10, 9, 8, 7, 6, 2, 1, 0]]) (.n none .z (.n none (.r [[176, 174, 12, 10, 9, 8, 7, 6, 2, 1, 0]]) (.n none (.r [[9, 8, 7, 6, 2, 1, 0]]) (.n none (.r [[195, 193, 10, 9, 8, 7, 6, 2, 1, 0]]) (.n none (.r [[9, 8, 7, 6, 2, 1, 0]]) .z)))))))))))))))))) .z))))) .z) .z)) .z) .z)) (.n none (.n none (.n (some [8, 7, 6]) .z .z) .z) (.n (some [7, 6]) .z .z))))))
def S23 (c : CV) (a0 a1 a2 : AV) (h : AH) : R :=
jX h 31 (.agg [.nils]) fun v0 h1 =>
qE (α := u3_0 → AH → List Nat → R) (fun s2 h3 d4 =>
zJ (σ := u3_0) NN (fun i9 s6 h7 d8 =>
q9 s6.1 fun v10 =>
qq .gtr v10 (iI 0) fun v11 =>
qz v11 (
qG c (.fn 57 [] []) [s6.2.1, s6.1] h7 fun v12 h13 =>
qD v12 0 fun v14 =>
qD v12 1 fun v15 =>
i9 (v15, v14, s6.2.2.1, ()) h13 d8) (
qE (α := u2_0 → AH → List Nat → R) (fun s16 h17 d18 =>
qm [.nils] [(0, 1, s16.1)] fun v20 =>
qy h17 s16.2.1 v20 1 fun h21 =>
qT d18 h21 fun h22 =>
qR h22 s16.2.1 1 fun v23 =>
some (v23, h22)) fun j19 =>
q9 s6.2.1 fun v24 =>
qq .eql v24 (iI 0) fun v25 =>
qz v25 (
qm [(iI 0), (iI 0), (iI 0), (iI 0), (uU 0)] [(0, 1, (iI 1)), (1, 1, (iI 0)), (4, 1, (uU 1))] fun v26 =>
qp h7 28 [(iI 0), (iI 0), (iI 0), (iI 0), (uU 0)] 1 [(0, 5, v26)] fun v27 h28 =>
q8 h28 28 5 s6.2.1 v27 fun v29 h30 =>
j19 (v29, s6.2.2.1, ()) h30 d8) (
j19 (s6.2.1, s6.2.2.1, ()) h7 d8))) (s2.1, s2.2.1, s2.2.2.1, ()) h3 d4) fun j5 =>
zJ (σ := u7_0) NN (fun i34 s31 h32 d33 =>
q9 s31.2.2.2.2.2.2.1 fun v35 =>
qq .lss s31.1 v35 fun v36 =>
qz v36 (
jz s31.2.2.2.2.2.2.1 s31.1 5 fun v37 =>
qR h32 v37 5 fun v38 =>
jX h32 115 (.agg [(iI 0), (iI 0), (iI 0), (iI 0), (uU 0)]) fun v39 h40 =>
qy h40 v39 v38 5 fun h41 =>
q9 s31.2.1 fun v42 =>
q9 s31.2.2.1 fun v43 =>
qq .mul (iI 2) v42 fun v44 =>
qq .add v43 v44 fun v45 =>
qq .add v45 (iI 5) fun v46 =>
qq .gtr v46 s31.2.2.2.2.2.1 fun v47 =>
qz v47 (
j5 (s31.2.1, s31.2.2.1, s31.2.2.2.1, ()) h41 d33) (
qJ v39 0 fun v48 =>
qX h41 v48 fun v49 =>
qG c (.fn 56 [] []) [v49, (iI 0), (iI 40)] h41 fun v50 h51 =>
qE (α := u7_0 → AH → List Nat → R) (fun s52 h53 d54 =>
qq .add s52.1 (iI 1) fun v56 =>
i34 (v56, s52.2.1, s52.2.2.1, s52.2.2.2.1, s52.2.2.2.2.1, s52.2.2.2.2.2.1, s52.2.2.2.2.2.2.1, ()) h53 d54) fun j55 =>
qq .eql v50 (iI 20) fun v57 =>
qE (α := u12_0 → AH → R) (fun s58 h59 =>
qn s58.2.1 s58.1 (.bool false) fun v61 =>
qz v61 (
qm [(iI 0), (iI 0), (iI 0), (iI 0), (uU 0)] [(0, 1, (iI 14))] fun v62 =>
qp h59 28 [(iI 0), (iI 0), (iI 0), (iI 0), (uU 0)] 1 [(0, 5, v62)] fun v63 h64 =>
q8 h64 28 5 s58.2.2.2.2.2.2.2.1 v63 fun v65 h66 =>
qp h66 3 [(iI 0)] 1 [(0, 1, (iI 14))] fun v67 h68 =>
q8 h68 3 1 s58.2.2.2.2.2.2.1 v67 fun v69 h70 =>
j55 (s58.2.2.2.2.2.1, v69, v65, s58.2.2.2.2.2.2.2.2.1, s58.2.2.2.2.2.2.2.2.2.1, s58.2.2.2.2.2.2.2.2.2.2.1, s58.2.2.2.2.2.2.2.2.2.2.2.1, ()) h70 d33) (
qq .eql s58.2.2.1 (iI 21) fun v71 =>
qE (α := u12_0 → AH → R) (fun s72 h73 =>
qn s72.2.1 (.bool true) s72.1 fun v75 =>
qE (α := u12_0 → AH → R) (fun s76 h77 =>
qn s76.2.1 s76.1 (.bool false) fun v79 =>
qz v79 (
qm [(iI 0), (iI 0), (iI 0), (iI 0), (uU 0)] [(0, 1, (iI 17))] fun v80 =>
qp h77 28 [(iI 0), (iI 0), (iI 0), (iI 0), (uU 0)] 1 [(0, 5, v80)] fun v81 h82 =>
q8 h82 28 5 s76.2.2.2.2.2.2.2.1 v81 fun v83 h84 =>
qp h84 3 [(iI 0)] 1 [(0, 1, (iI 17))] fun v85 h86 =>
q8 h86 3 1 s76.2.2.2.2.2.2.1 v85 fun v87 h88 =>
j55 (s76.2.2.2.2.2.1, v87, v83, s76.2.2.2.2.2.2.2.2.1, s76.2.2.2.2.2.2.2.2.2.1, s76.2.2.2.2.2.2.2.2.2.2.1, s76.2.2.2.2.2.2.2.2.2.2.2.1, ()) h88 d33) (
qq .eql s76.2.2.1 (iI 23) fun v89 =>
qE (α := u12_0 → AH → R) (fun s90 h91 =>
qn s90.2.1 (.bool true) s90.1 fun v93 =>
qE (α := u12_0 → AH → R) (fun s94 h95 =>
qn s94.2.1 s94.1 (.bool false) fun v97 =>
qz v97 (
qG c (.fn 57 [] []) [s94.2.2.2.2.2.2.2.1, s94.2.2.2.2.2.2.1] h95 fun v98 h99 =>
qD v98 0 fun v100 =>
qD v98 1 fun v101 =>
j55 (s94.2.2.2.2.2.1, v101, v100, s94.2.2.2.2.2.2.2.2.1, s94.2.2.2.2.2.2.2.2.2.1, s94.2.2.2.2.2.2.2.2.2.2.1, s94.2.2.2.2.2.2.2.2.2.2.2.1, ()) h99 d33) (
qq .eql s94.2.2.1 (iI 25) fun v102 =>
qE (α := u12_0 → AH → R) (fun s103 h104 =>
qn s103.2.1 s103.1 (.bool false) fun v106 =>
qE (α := u12_0 → AH → R) (fun s107 h108 =>
qn s107.2.1 s107.1 (.bool false) fun v110 =>
qz v110 (
qm [(iI 0), (iI 0), (iI 0), (iI 0), (uU 0)] [(0, 1, (iI 16))] fun v111 =>
qp h108 28 [(iI 0), (iI 0), (iI 0), (iI 0), (uU 0)] 1 [(0, 5, v111)] fun v112 h113 =>
q8 h113 28 5 s107.2.2.2.2.2.2.2.1 v112 fun v114 h115 =>
j55 (s107.2.2.2.2.2.1, s107.2.2.2.2.2.2.1, v114, s107.2.2.2.2.2.2.2.2.1, s107.2.2.2.2.2.2.2.2.2.1, s107.2.2.2.2.2.2.2.2.2.2.1, s107.2.2.2.2.2.2.2.2.2.2.2.1, ()) h115 d33) (
qq .eql s107.2.2.1 (iI 26) fun v116 =>
qE (α := u12_0 → AH → R) (fun s117 h118 =>
qn s117.2.1 (.bool true) s117.1 fun v120 =>
qE (α := u12_0 → AH → R) (fun s121 h122 =>
qn s121.2.1 s121.1 (.bool false) fun v124 =>
qE (α := u11_0 → AH → R) (fun s125 h126 =>
qn s125.2.1 s125.1 (.bool false) fun v128 =>
qz v128 (
qJ s125.2.2.2.1 1 fun v129 =>
qX h126 v129 fun v130 =>
qG c (.fn 58 [] []) [v130] h126 fun v131 h132 =>
q9 s125.2.2.2.2.2.2.1 fun v133 =>
qq .add v133 (iI 2) fun v134 =>
qm [(iI 0), (iI 0), (iI 0), (iI 0), (uU 0)] [(0, 1, (iI 13)), (1, 1, v131), (3, 1, v134)] fun v135 =>
qm [(iI 0), (iI 0), (iI 0), (iI 0), (uU 0)] [(0, 1, (iI 20))] fun v136 =>
qp h132 28 [(iI 0), (iI 0), (iI 0), (iI 0), (uU 0)] 2 [(0, 5, v135), (5, 5, v136)] fun v137 h138 =>
q8 h138 28 5 s125.2.2.2.2.2.2.1 v137 fun v139 h140 =>
j55 (s125.2.2.2.2.1, s125.2.2.2.2.2.1, v139, s125.2.2.2.2.2.2.2.1, s125.2.2.2.2.2.2.2.2.1, s125.2.2.2.2.2.2.2.2.2.1, s125.2.2.2.2.2.2.2.2.2.2.1, ()) h140 d33) (
qq .eql s125.2.2.1 (iI 28) fun v141 =>
qE (α := u11_0 → AH → R) (fun s142 h143 =>
qn s142.2.1 s142.1 (.bool false) fun v145 =>
qz v145 (
qJ s142.2.2.2.1 1 fun v146 =>
qX h143 v146 fun v147 =>
qG c (.fn 58 [] []) [v147] h143 fun v148 h149 =>
q9 s142.2.2.2.2.2.2.1 fun v150 =>
qq .add v150 (iI 2) fun v151 =>
qm [(iI 0), (iI 0), (iI 0), (iI 0), (uU 0)] [(0, 1, (iI 13)), (1, 1, v148), (3, 1, v151)] fun v152 =>
qm [(iI 0), (iI 0), (iI 0), (iI 0), (uU 0)] [(0, 1, (iI 20))] fun v153 =>
qp h149 28 [(iI 0), (iI 0), (iI 0), (iI 0), (uU 0)] 2 [(0, 5, v152), (5, 5, v153)] fun v154 h155 =>
q8 h155 28 5 s142.2.2.2.2.2.2.1 v154 fun v156 h157 =>
j55 (s142.2.2.2.2.1, s142.2.2.2.2.2.1, v156, s142.2.2.2.2.2.2.2.1, s142.2.2.2.2.2.2.2.2.1, s142.2.2.2.2.2.2.2.2.2.1, s142.2.2.2.2.2.2.2.2.2.2.1, ()) h157 d33) (
qq .eql s142.2.2.1 (iI 29) fun v158 =>
qE (α := u11_0 → AH → R) (fun s159 h160 =>
qn s159.2.1 s159.1 (.bool false) fun v162 =>
qz v162 (
qJ s159.2.2.2.1 1 fun v163 =>
qX h160 v163 fun v164 =>
qG c (.fn 58 [] []) [v164] h160 fun v165 h166 =>
q9 s159.2.2.2.2.2.2.1 fun v167 =>
qq .add v167 (iI 2) fun v168 =>
qm [(iI 0), (iI 0), (iI 0), (iI 0), (uU 0)] [(0, 1, (iI 13)), (1, 1, v165), (3, 1, v168)] fun v169 =>
qm [(iI 0), (iI 0), (iI 0), (iI 0), (uU 0)] [(0, 1, (iI 22))] fun v170 =>
qp h166 28 [(iI 0), (iI 0), (iI 0), (iI 0), (uU 0)] 2 [(0, 5, v169), (5, 5, v170)] fun v171 h172 =>
q8 h172 28 5 s159.2.2.2.2.2.2.1 v171 fun v173 h174 =>
j55 (s159.2.2.2.2.1, s159.2.2.2.2.2.1, v173, s159.2.2.2.2.2.2.2.1, s159.2.2.2.2.2.2.2.2.1, s159.2.2.2.2.2.2.2.2.2.1, s159.2.2.2.2.2.2.2.2.2.2.1, ()) h174 d33) (
qq .eql s159.2.2.1 (iI 30) fun v175 =>
qE (α := u11_0 → AH → R) (fun s176 h177 =>
qn s176.2.1 (.bool true) s176.1 fun v179 =>
qz v179 (
qE (α := u7_0 → AH → R) (fun s180 h181 =>
j55 (s180.1, s180.2.1, s180.2.2.1, s180.2.2.2.1, s180.2.2.2.2.1, s180.2.2.2.2.2.1, s180.2.2.2.2.2.2.1, ()) h181 d33) fun j182 =>
qJ s176.2.2.2.1 2 fun v183 =>
qX h177 v183 fun v184 =>
qG c (.fn 58 [] []) [v184] h177 fun v185 h186 =>
q9 s176.2.2.2.2.2.2.1 fun v187 =>
qq .add v187 (iI 2) fun v188 =>
qm [(iI 0), (iI 0), (iI 0), (iI 0), (uU 0)] [(0, 1, (iI 13)), (1, 1, v185), (3, 1, v188)] fun v189 =>
qR h186 s176.2.2.2.1 5 fun v190 =>
qG c (.fn 59 [] []) [v190] h186 fun v191 h192 =>
qp h192 28 [(iI 0), (iI 0), (iI 0), (iI 0), (uU 0)] 2 [(0, 5, v189), (5, 5, v191)] fun v193 h194 =>
q8 h194 28 5 s176.2.2.2.2.2.2.1 v193 fun v195 h196 =>
zx s176.2.2.2.1 (some 5) v190 h177 h186 h177.nx <|
j182 (s176.2.2.2.2.1, s176.2.2.2.2.2.1, v195, s176.2.2.2.2.2.2.2.1, s176.2.2.2.2.2.2.2.2.1, s176.2.2.2.2.2.2.2.2.2.1, s176.2.2.2.2.2.2.2.2.2.2.1, ()) h196) (
qq .eql s176.2.2.1 (iI 32) fun v197 =>
qE (α := AV × AV × AV × AV × AV × AV × AV × AV × AV × AV × Unit → AH → R) (fun s198 h199 =>
qn s198.2.1 s198.1 (.bool false) fun v201 =>
qz v201 (
qE (α := u7_0 → AH → R) (fun s202 h203 =>
j55 (s202.1, s202.2.1, s202.2.2.1, s202.2.2.2.1, s202.2.2.2.2.1, s202.2.2.2.2.2.1, s202.2.2.2.2.2.2.1, ()) h203 d33) fun j204 =>
qR h199 s198.2.2.1 5 fun v205 =>
qG c (.fn 59 [] []) [v205] h199 fun v206 h207 =>
qJ s198.2.2.1 2 fun v208 =>
qX h207 v208 fun v209 =>
qG c (.fn 58 [] []) [v209] h207 fun v210 h211 =>
q9 s198.2.2.2.2.2.1 fun v212 =>
qm [(iI 0), (iI 0), (iI 0), (iI 0), (uU 0)] [(0, 1, (iI 13)), (1, 1, v210), (3, 1, v212)] fun v213 =>
qp h211 28 [(iI 0), (iI 0), (iI 0), (iI 0), (uU 0)] 2 [(0, 5, v206), (5, 5, v213)] fun v214 h215 =>
q8 h215 28 5 s198.2.2.2.2.2.1 v214 fun v216 h217 =>
zx v208 none v209 h199 h207 h199.nx <|
j204 (s198.2.2.2.1, s198.2.2.2.2.1, v216, s198.2.2.2.2.2.2.1, s198.2.2.2.2.2.2.2.1, s198.2.2.2.2.2.2.2.2.1, s198.2.2.2.2.2.2.2.2.2.1, ()) h217) (
qR h199 s198.2.2.1 5 fun v218 =>
qG c (.fn 59 [] []) [v218] h199 fun v219 h220 =>
qp h220 28 [(iI 0), (iI 0), (iI 0), (iI 0), (uU 0)] 1 [(0, 5, v219)] fun v221 h222 =>
q8 h222 28 5 s198.2.2.2.2.2.1 v221 fun v223 h224 =>
j55 (s198.2.2.2.1, s198.2.2.2.2.1, v223, s198.2.2.2.2.2.2.1, s198.2.2.2.2.2.2.2.1, s198.2.2.2.2.2.2.2.2.1, s198.2.2.2.2.2.2.2.2.2.1, ()) h224 d33)) fun j200 =>
qi v197 true (
pUn .not s176.2.2.2.2.2.2.2.2.1 fun v225 =>
j200 (v225, v197, s176.2.2.2.1, s176.2.2.2.2.1, s176.2.2.2.2.2.1, s176.2.2.2.2.2.2.1, s176.2.2.2.2.2.2.2.1, s176.2.2.2.2.2.2.2.2.1, s176.2.2.2.2.2.2.2.2.2.1, s176.2.2.2.2.2.2.2.2.2.2.1, ()) h177) (
j200 (.undef, v197, s176.2.2.2.1, s176.2.2.2.2.1, s176.2.2.2.2.2.1, s176.2.2.2.2.2.2.1, s176.2.2.2.2.2.2.2.1, s176.2.2.2.2.2.2.2.2.1, s176.2.2.2.2.2.2.2.2.2.1, s176.2.2.2.2.2.2.2.2.2.2.1, ()) h177))) fun j178 =>
qi v175 false (
qq .eql s159.2.2.1 (iI 31) fun v226 =>
j178 (v226, v175, s159.2.2.1, s159.2.2.2.1, s159.2.2.2.2.1, s159.2.2.2.2.2.1, s159.2.2.2.2.2.2.1, s159.2.2.2.2.2.2.2.1, s159.2.2.2.2.2.2.2.2.1, s159.2.2.2.2.2.2.2.2.2.1, s159.2.2.2.2.2.2.2.2.2.2.1, ()) h160) (
j178 (.undef, v175, s159.2.2.1, s159.2.2.2.1, s159.2.2.2.2.1, s159.2.2.2.2.2.1, s159.2.2.2.2.2.2.1, s159.2.2.2.2.2.2.2.1, s159.2.2.2.2.2.2.2.2.1, s159.2.2.2.2.2.2.2.2.2.1, s159.2.2.2.2.2.2.2.2.2.2.1, ()) h160))) fun j161 =>
qi v158 true (
pUn .not s142.2.2.2.2.2.2.2.2.1 fun v227 =>
j161 (v227, v158, s142.2.2.1, s142.2.2.2.1, s142.2.2.2.2.1, s142.2.2.2.2.2.1, s142.2.2.2.2.2.2.1, s142.2.2.2.2.2.2.2.1, s142.2.2.2.2.2.2.2.2.1, s142.2.2.2.2.2.2.2.2.2.1, s142.2.2.2.2.2.2.2.2.2.2.1, ()) h143) (
j161 (.undef, v158, s142.2.2.1, s142.2.2.2.1, s142.2.2.2.2.1, s142.2.2.2.2.2.1, s142.2.2.2.2.2.2.1, s142.2.2.2.2.2.2.2.1, s142.2.2.2.2.2.2.2.2.1, s142.2.2.2.2.2.2.2.2.2.1, s142.2.2.2.2.2.2.2.2.2.2.1, ()) h143))) fun j144 =>
qi v141 true (
pUn .not s125.2.2.2.2.2.2.2.2.1 fun v228 =>
j144 (v228, v141, s125.2.2.1, s125.2.2.2.1, s125.2.2.2.2.1, s125.2.2.2.2.2.1, s125.2.2.2.2.2.2.1, s125.2.2.2.2.2.2.2.1, s125.2.2.2.2.2.2.2.2.1, s125.2.2.2.2.2.2.2.2.2.1, s125.2.2.2.2.2.2.2.2.2.2.1, ()) h126) (
j144 (.undef, v141, s125.2.2.1, s125.2.2.2.1, s125.2.2.2.2.1, s125.2.2.2.2.2.1, s125.2.2.2.2.2.2.1, s125.2.2.2.2.2.2.2.1, s125.2.2.2.2.2.2.2.2.1, s125.2.2.2.2.2.2.2.2.2.1, s125.2.2.2.2.2.2.2.2.2.2.1, ()) h126))) fun j127 =>
qi v124 true (
qq .gtr s121.2.2.2.1 (iI 0) fun v229 =>
j127 (v229, v124, s121.2.2.1, s121.2.2.2.2.1, s121.2.2.2.2.2.1, s121.2.2.2.2.2.2.1, s121.2.2.2.2.2.2.2.1, s121.2.2.2.2.2.2.2.2.1, s121.2.2.2.2.2.2.2.2.2.1, s121.2.2.2.2.2.2.2.2.2.2.1, s121.2.2.2.2.2.2.2.2.2.2.2.1, ()) h122) (
j127 (.undef, v124, s121.2.2.1, s121.2.2.2.2.1, s121.2.2.2.2.2.1, s121.2.2.2.2.2.2.1, s121.2.2.2.2.2.2.2.1, s121.2.2.2.2.2.2.2.2.1, s121.2.2.2.2.2.2.2.2.2.1, s121.2.2.2.2.2.2.2.2.2.2.1, s121.2.2.2.2.2.2.2.2.2.2.2.1, ()) h122)) fun j123 =>
qi v120 true (
pUn .not s117.2.2.2.2.2.2.2.2.2.1 fun v230 =>
j123 (v230, v120, s117.2.2.1, s117.2.2.2.1, s117.2.2.2.2.1, s117.2.2.2.2.2.1, s117.2.2.2.2.2.2.1, s117.2.2.2.2.2.2.2.1, s117.2.2.2.2.2.2.2.2.1, s117.2.2.2.2.2.2.2.2.2.1, s117.2.2.2.2.2.2.2.2.2.2.1, s117.2.2.2.2.2.2.2.2.2.2.2.1, ()) h118) (
j123 (.undef, v120, s117.2.2.1, s117.2.2.2.1, s117.2.2.2.2.1, s117.2.2.2.2.2.1, s117.2.2.2.2.2.2.1, s117.2.2.2.2.2.2.2.1, s117.2.2.2.2.2.2.2.2.1, s117.2.2.2.2.2.2.2.2.2.1, s117.2.2.2.2.2.2.2.2.2.2.1, s117.2.2.2.2.2.2.2.2.2.2.2.1, ()) h118)) fun j119 =>
qi v116 false (
qq .eql s107.2.2.1 (iI 27) fun v231 =>
j119 (v231, v116, s107.2.2.1, s107.2.2.2.1, s107.2.2.2.2.1, s107.2.2.2.2.2.1, s107.2.2.2.2.2.2.1, s107.2.2.2.2.2.2.2.1, s107.2.2.2.2.2.2.2.2.1, s107.2.2.2.2.2.2.2.2.2.1, s107.2.2.2.2.2.2.2.2.2.2.1, s107.2.2.2.2.2.2.2.2.2.2.2.1, ()) h108) (
j119 (.undef, v116, s107.2.2.1, s107.2.2.2.1, s107.2.2.2.2.1, s107.2.2.2.2.2.1, s107.2.2.2.2.2.2.1, s107.2.2.2.2.2.2.2.1, s107.2.2.2.2.2.2.2.2.1, s107.2.2.2.2.2.2.2.2.2.1, s107.2.2.2.2.2.2.2.2.2.2.1, s107.2.2.2.2.2.2.2.2.2.2.2.1, ()) h108))) fun j109 =>
qi v106 true (
qq .sub s103.2.2.2.1 (iI 1) fun v232 =>
jz s103.2.2.2.2.2.2.1 v232 1 fun v233 =>
qX h104 v233 fun v234 =>
qq .eql v234 (iI 14) fun v235 =>
j109 (v235, v106, s103.2.2.1, s103.2.2.2.1, s103.2.2.2.2.1, s103.2.2.2.2.2.1, s103.2.2.2.2.2.2.1, s103.2.2.2.2.2.2.2.1, s103.2.2.2.2.2.2.2.2.1, s103.2.2.2.2.2.2.2.2.2.1, s103.2.2.2.2.2.2.2.2.2.2.1, s103.2.2.2.2.2.2.2.2.2.2.2.1, ()) h104) (
j109 (.undef, v106, s103.2.2.1, s103.2.2.2.1, s103.2.2.2.2.1, s103.2.2.2.2.2.1, s103.2.2.2.2.2.2.1, s103.2.2.2.2.2.2.2.1, s103.2.2.2.2.2.2.2.2.1, s103.2.2.2.2.2.2.2.2.2.1, s103.2.2.2.2.2.2.2.2.2.2.1, s103.2.2.2.2.2.2.2.2.2.2.2.1, ()) h104)) fun j105 =>
qi v102 true (
qq .gtr s94.2.2.2.1 (iI 0) fun v236 =>
j105 (v236, v102, s94.2.2.1, s94.2.2.2.1, s94.2.2.2.2.1, s94.2.2.2.2.2.1, s94.2.2.2.2.2.2.1, s94.2.2.2.2.2.2.2.1, s94.2.2.2.2.2.2.2.2.1, s94.2.2.2.2.2.2.2.2.2.1, s94.2.2.2.2.2.2.2.2.2.2.1, s94.2.2.2.2.2.2.2.2.2.2.2.1, ()) h95) (
j105 (.undef, v102, s94.2.2.1, s94.2.2.2.1, s94.2.2.2.2.1, s94.2.2.2.2.2.1, s94.2.2.2.2.2.2.1, s94.2.2.2.2.2.2.2.1, s94.2.2.2.2.2.2.2.2.1, s94.2.2.2.2.2.2.2.2.2.1, s94.2.2.2.2.2.2.2.2.2.2.1, s94.2.2.2.2.2.2.2.2.2.2.2.1, ()) h95))) fun j96 =>
qi v93 true (
qq .gtr s90.2.2.2.1 (iI 0) fun v237 =>
j96 (v237, v93, s90.2.2.1, s90.2.2.2.1, s90.2.2.2.2.1, s90.2.2.2.2.2.1, s90.2.2.2.2.2.2.1, s90.2.2.2.2.2.2.2.1, s90.2.2.2.2.2.2.2.2.1, s90.2.2.2.2.2.2.2.2.2.1, s90.2.2.2.2.2.2.2.2.2.2.1, s90.2.2.2.2.2.2.2.2.2.2.2.1, ()) h91) (
j96 (.undef, v93, s90.2.2.1, s90.2.2.2.1, s90.2.2.2.2.1, s90.2.2.2.2.2.1, s90.2.2.2.2.2.2.1, s90.2.2.2.2.2.2.2.1, s90.2.2.2.2.2.2.2.2.1, s90.2.2.2.2.2.2.2.2.2.1, s90.2.2.2.2.2.2.2.2.2.2.1, s90.2.2.2.2.2.2.2.2.2.2.2.1, ()) h91)) fun j92 =>
qi v89 false (
qq .eql s76.2.2.1 (iI 24) fun v238 =>
j92 (v238, v89, s76.2.2.1, s76.2.2.2.1, s76.2.2.2.2.1, s76.2.2.2.2.2.1, s76.2.2.2.2.2.2.1, s76.2.2.2.2.2.2.2.1, s76.2.2.2.2.2.2.2.2.1, s76.2.2.2.2.2.2.2.2.2.1, s76.2.2.2.2.2.2.2.2.2.2.1, s76.2.2.2.2.2.2.2.2.2.2.2.1, ()) h77) (
j92 (.undef, v89, s76.2.2.1, s76.2.2.2.1, s76.2.2.2.2.1, s76.2.2.2.2.2.1, s76.2.2.2.2.2.2.1, s76.2.2.2.2.2.2.2.1, s76.2.2.2.2.2.2.2.2.1, s76.2.2.2.2.2.2.2.2.2.1, s76.2.2.2.2.2.2.2.2.2.2.1, s76.2.2.2.2.2.2.2.2.2.2.2.1, ()) h77))) fun j78 =>
qi v75 true (
qq .lss s72.2.2.2.1 (iI 5) fun v239 =>
j78 (v239, v75, s72.2.2.1, s72.2.2.2.1, s72.2.2.2.2.1, s72.2.2.2.2.2.1, s72.2.2.2.2.2.2.1, s72.2.2.2.2.2.2.2.1, s72.2.2.2.2.2.2.2.2.1, s72.2.2.2.2.2.2.2.2.2.1, s72.2.2.2.2.2.2.2.2.2.2.1, s72.2.2.2.2.2.2.2.2.2.2.2.1, ()) h73) (
j78 (.undef, v75, s72.2.2.1, s72.2.2.2.1, s72.2.2.2.2.1, s72.2.2.2.2.2.1, s72.2.2.2.2.2.2.1, s72.2.2.2.2.2.2.2.1, s72.2.2.2.2.2.2.2.2.1, s72.2.2.2.2.2.2.2.2.2.1, s72.2.2.2.2.2.2.2.2.2.2.1, s72.2.2.2.2.2.2.2.2.2.2.2.1, ()) h73)) fun j74 =>
qi v71 false (
qq .eql s58.2.2.1 (iI 22) fun v240 =>
j74 (v240, v71, s58.2.2.1, s58.2.2.2.1, s58.2.2.2.2.1, s58.2.2.2.2.2.1, s58.2.2.2.2.2.2.1, s58.2.2.2.2.2.2.2.1, s58.2.2.2.2.2.2.2.2.1, s58.2.2.2.2.2.2.2.2.2.1, s58.2.2.2.2.2.2.2.2.2.2.1, s58.2.2.2.2.2.2.2.2.2.2.2.1, ()) h59) (
j74 (.undef, v71, s58.2.2.1, s58.2.2.2.1, s58.2.2.2.2.1, s58.2.2.2.2.2.1, s58.2.2.2.2.2.2.1, s58.2.2.2.2.2.2.2.1, s58.2.2.2.2.2.2.2.2.1, s58.2.2.2.2.2.2.2.2.2.1, s58.2.2.2.2.2.2.2.2.2.2.1, s58.2.2.2.2.2.2.2.2.2.2.2.1, ()) h59))) fun j60 =>
qi v57 true (
qq .lss v42 (iI 5) fun v241 =>
j60 (v241, v57, v50, v42, v39, s31.1, s31.2.1, s31.2.2.1, s31.2.2.2.1, s31.2.2.2.2.1, s31.2.2.2.2.2.1, s31.2.2.2.2.2.2.1, ()) h51) (
j60 (.undef, v57, v50, v42, v39, s31.1, s31.2.1, s31.2.2.1, s31.2.2.2.1, s31.2.2.2.2.1, s31.2.2.2.2.2.1, s31.2.2.2.2.2.2.1, ()) h51))) (
j5 (s31.2.1, s31.2.2.1, s31.2.2.2.1, ()) h32 d33)) ((iI 0), .nils, .nils, v0, a2, a1, a0, ()) h1 []
def W23 : WF := w_3 S23
theorem W23_ok : WOk Tryz.prog 23 W23 := zZ (pl := P23) fun _ _ _ _ _ => by kernel_rfl
def P30 : Pl := (.n none .z (.n none .z (.n none (.n none .z (.n none (.n (some [5, 1, 0]) .z .z) .z)) .z)))
def S30 (_ : CV) (a0 a1 : AV) (h : AH) : R :=
q9 a0 fun v0 =>
q9 a1 fun v1 =>
qq .neq v0 v1 fun v2 =>
qz v2 (
some ((.bool false), h)) (
zJ (σ := u3_0) NN (fun i6 s3 h4 d5 =>
q9 s3.2.2.1 fun v7 =>
qq .lss s3.1 v7 fun v8 =>
qz v8 (
jz s3.2.2.1 s3.1 2 fun v9 =>
qR h4 v9 2 fun v10 =>
jz s3.2.1 s3.1 2 fun v11 =>
qR h4 v11 2 fun v12 =>
YF [.bas .int 0, .bas .int 1] true v10 v12 fun v13 =>
qz v13 (
qT d5 h4 fun h14 =>
some ((.bool false), h14)) (
qq .add s3.1 (iI 1) fun v15 =>
i6 (v15, s3.2.1, s3.2.2.1, ()) h4 d5)) (
qT d5 h4 fun h16 =>
some ((.bool true), h16))) ((iI 0), a1, a0, ()) h [])
def W30 : WF := w_2 S30
theorem W30_ok : WOk Tryz.prog 30 W30 := jC (pl := P30) fun _ _ _ _ => by kernel_rfl
def P31 : Pl := .z
def S31 (c : CV) (a0 : AV) (h : AH) : R :=
qF a0 fun v0 =>
qJ v0 2 fun v1 =>
qX h v1 fun v2 =>
qG c (.fn 69 [] []) [v2] h fun v3 h4 =>
some (v3, h4)
def W31 : WF := w_1 S31
theorem W31_ok : WOk Tryz.prog 31 W31 := jk (pl := P31) fun _ _ _ => by kernel_rfl
def P32 : Pl := (.n none .z (.n none .z (.n none (.n none .z (.n none (.n (some [5, 1, 0]) .z .z) .z)) .z)))
def S32 (_ : CV) (a0 a1 : AV) (h : AH) : R :=
q9 a0 fun v0 =>
q9 a1 fun v1 =>
qq .neq v0 v1 fun v2 =>
qz v2 (
some ((.bool false), h)) (
zJ (σ := u3_0) NN (fun i6 s3 h4 d5 =>
q9 s3.2.2.1 fun v7 =>
qq .lss s3.1 v7 fun v8 =>
qz v8 (
jz s3.2.2.1 s3.1 1 fun v9 =>
qX h4 v9 fun v10 =>
jz s3.2.1 s3.1 1 fun v11 =>
qX h4 v11 fun v12 =>
qq .neq v10 v12 fun v13 =>
qz v13 (
qT d5 h4 fun h14 =>
some ((.bool false), h14)) (
qq .add s3.1 (iI 1) fun v15 =>
i6 (v15, s3.2.1, s3.2.2.1, ()) h4 d5)) (
qT d5 h4 fun h16 =>
some ((.bool true), h16))) ((iI 0), a1, a0, ()) h [])
def W32 : WF := w_2 S32
theorem W32_ok : WOk Tryz.prog 32 W32 := jC (pl := P32) fun _ _ _ _ => by kernel_rfl
def P33 : Pl := .z
def S33 (c : CV) (a0 : AV) (h : AH) : R :=
qF a0 fun v0 =>
qJ v0 2 fun v1 =>
qX h v1 fun v2 =>
qG c (.fn 70 [] []) [v2] h fun v3 h4 =>
some (v3, h4)
def W33 : WF := w_1 S33
theorem W33_ok : WOk Tryz.prog 33 W33 := jk (pl := P33) fun _ _ _ => by kernel_rfl
def P35 : Pl := (.n none .z (.n none .z (.n none (.n none .z (.n none (.n (some [4, 3, 2, 0]) (.n none .z (.n none (.n none (.n none .z (.n none .z (.n none (.n (some [6, 5, 4, 3, 2, 0]) (.n none .z (.n none (.n none (.n none .z (.n (some [7, 6, 5, 4, 3, 2, 0]) (.n none (.r [[41, 38, 7, 6, 5, 4, 3, 2, 0]]) .z) .z)) .z) .z)) .z) .z))) .z) .z)) .z) .z)) .z)))
def S35 (_ : CV) (a0 : AV) (h : AH) : R :=
jX h 31 (.agg [.nils]) fun v0 h1 =>
jX h1 31 (.agg [.nils]) fun v2 h3 =>
zJ (σ := u4_0) NN (fun i7 s4 h5 d6 =>
q9 s4.2.2.2.1 fun v8 =>
qq .lss s4.1 v8 fun v9 =>
qz v9 (
qJ s4.2.1 0 fun v10 =>
qX h5 v10 fun v11 =>
q9 v11 fun v12 =>
zJ (σ := u6_0) NN (fun i16 s13 h14 d15 =>
jz s13.2.2.2.2.2.1 s13.2.2.1 1 fun v17 =>
qJ v17 0 fun v18 =>
qX h14 v18 fun v19 =>
q9 v19 fun v20 =>
qq .lss s13.1 v20 fun v21 =>
qz v21 (
jz s13.2.2.2.2.2.1 s13.2.2.1 1 fun v22 =>
qJ v22 0 fun v23 =>
qX h14 v23 fun v24 =>
jz v24 s13.1 5 fun v25 =>
qR h14 v25 5 fun v26 =>
jX h14 28 (.agg [(iI 0), (iI 0), (iI 0), (iI 0), (uU 0)]) fun v27 h28 =>
qy h28 v27 v26 5 fun h29 =>
qE (α := u7_0 → AH → List Nat → R) (fun s30 h31 d32 =>
qJ s30.2.2.2.2.1 0 fun v34 =>
qX h31 v34 fun v35 =>
qR h31 s30.1 5 fun v36 =>
qp h31 28 [(iI 0), (iI 0), (iI 0), (iI 0), (uU 0)] 1 [(0, 5, v36)] fun v37 h38 =>
q8 h38 28 5 v35 v37 fun v39 h40 =>
qJ s30.2.2.2.2.1 0 fun v41 =>
qy h40 v41 v39 1 fun h42 =>
qq .add s30.2.1 (iI 1) fun v43 =>
i16 (v43, s30.2.2.1, s30.2.2.2.1, s30.2.2.2.2.1, s30.2.2.2.2.2.1, s30.2.2.2.2.2.2.1, ()) h42 d32) fun j33 =>
qJ v27 0 fun v44 =>
qX h29 v44 fun v45 =>
qq .eql v45 (iI 12) fun v46 =>
qE (α := u9_0 → AH → R) (fun s47 h48 =>
qn s47.2.1 (.bool true) s47.1 fun v50 =>
qz v50 (
qJ s47.2.2.1 3 fun v51 =>
qX h48 v51 fun v52 =>
qq .add v52 s47.2.2.2.2.1 fun v53 =>
qJ s47.2.2.1 3 fun v54 =>
qy h48 v54 v53 1 fun h55 =>
j33 (s47.2.2.1, s47.2.2.2.1, s47.2.2.2.2.1, s47.2.2.2.2.2.1, s47.2.2.2.2.2.2.1, s47.2.2.2.2.2.2.2.1, s47.2.2.2.2.2.2.2.2.1, ()) h55 d15) (
j33 (s47.2.2.1, s47.2.2.2.1, s47.2.2.2.2.1, s47.2.2.2.2.2.1, s47.2.2.2.2.2.2.1, s47.2.2.2.2.2.2.2.1, s47.2.2.2.2.2.2.2.2.1, ()) h48 d15)) fun j49 =>
qi v46 false (
qJ v27 0 fun v56 =>
qX h29 v56 fun v57 =>
qq .eql v57 (iI 13) fun v58 =>
j49 (v58, v46, v27, s13.1, s13.2.1, s13.2.2.1, s13.2.2.2.1, s13.2.2.2.2.1, s13.2.2.2.2.2.1, ()) h29) (
j49 (.undef, v46, v27, s13.1, s13.2.1, s13.2.2.1, s13.2.2.2.1, s13.2.2.2.2.1, s13.2.2.2.2.2.1, ()) h29)) (
qq .add s13.2.2.1 (iI 1) fun v59 =>
i7 (v59, s13.2.2.2.1, s13.2.2.2.2.1, s13.2.2.2.2.2.1, ()) h14 d15)) ((iI 0), v12, s4.1, s4.2.1, s4.2.2.1, s4.2.2.2.1, ()) h5 d6) (
qR h5 s4.2.1 1 fun v60 =>
qy h5 s4.2.2.1 v60 1 fun h61 =>
qT d6 h61 fun h62 =>
qR h62 s4.2.2.1 1 fun v63 =>
some (v63, h62))) ((iI 0), v2, v0, a0, ()) h3 []
def W35 : WF := w_1 S35
theorem W35_ok : WOk Tryz.prog 35 W35 := jk (pl := P35) fun _ _ _ => by kernel_rfl
def P36 : Pl := .z
def S36 (_ : CV) (a0 : AV) (h : AH) : R :=
jX h 31 (.agg [.nils]) fun v0 h1 =>
qm [(iI 0), (iI 0), (iI 0), (iI 0), (uU 0)] [(0, 1, a0)] fun v2 =>
qp h1 28 [(iI 0), (iI 0), (iI 0), (iI 0), (uU 0)] 1 [(0, 5, v2)] fun v3 h4 =>
qm [.nils] [(0, 1, v3)] fun v5 =>
qy h4 v0 v5 1 fun h6 =>
qR h6 v0 1 fun v7 =>
some (v7, h6)
def W36 : WF := w_1 S36
theorem W36_ok : WOk Tryz.prog 36 W36 := jk (pl := P36) fun _ _ _ => by kernel_rfl
def P37 : Pl := (.n none .z (.n none (.n none (.r [[16, 12, 1]]) .z) (.n none .z (.n none (.n none .z (.n none (.n (some [21, 20, 19, 4, 1]) .z .z) .z)) (.n none .z (.n none (.r [[3, 2]]) .z))))))
def S37 (c : CV) (a0 : AV) (h : AH) : R :=
jX h 31 a0 fun v0 h1 =>
qJ v0 0 fun v2 =>
qX h1 v2 fun v3 =>
q9 v3 fun v4 =>
qq .eql v4 (iI 0) fun v5 =>
qE (α := u3_0 → AH → R) (fun s6 h7 =>
qn s6.2.1 (.bool true) s6.1 fun v9 =>
qz v9 (
some ((.tup [(iI 0), (iI 4)]), h7)) (
qJ s6.2.2.1 0 fun v10 =>
qX h7 v10 fun v11 =>
q9 v11 fun v12 =>
zJ (σ := u5_0) NN (fun i16 s13 h14 d15 =>
qq .lss s13.1 s13.2.1 fun v17 =>
qz v17 (
jz s13.2.2.1 s13.1 5 fun v18 =>
qR h14 v18 5 fun v19 =>
jX h14 28 (.agg [(iI 0), (iI 0), (iI 0), (iI 0), (uU 0)]) fun v20 h21 =>
qy h21 v20 v19 5 fun h22 =>
qR h22 s13.2.2.2.2.1 1 fun v23 =>
qR h22 v20 5 fun v24 =>
qG c (.fn 72 [] []) [v23, s13.2.2.2.1, v24] h22 fun v25 h26 =>
qq .neq v25 (iI 0) fun v27 =>
qz v27 (
qT d15 h26 fun h28 =>
some ((.tup [s13.1, v25]), h28)) (
qJ v20 0 fun v29 =>
qX h26 v29 fun v30 =>
qG c (.fn 73 [] []) [s13.2.2.2.1, s13.1, v30] h26 fun v31 h32 =>
qq .add s13.1 (iI 1) fun v33 =>
i16 (v33, s13.2.1, s13.2.2.1, v31, s13.2.2.2.2.1, ()) h32 d15)) (
q9 s13.2.2.2.1 fun v34 =>
qq .gtr v34 (iI 0) fun v35 =>
qz v35 (
qG c (.fn 74 [] []) [s13.2.2.2.1] h14 fun v36 h37 =>
qT d15 h37 fun h38 =>
some ((.tup [v36, (iI 12)]), h38)) (
qE (α := u2_0 → AH → R) (fun s39 h40 =>
qT d15 h40 fun h42 =>
some ((.tup [s39.2.1, s39.1]), h42)) fun j41 =>
qR h14 s13.2.2.2.2.1 1 fun v43 =>
qR h14 s13.2.2.2.2.1 1 fun v44 =>
qG c (.fn 76 [] []) [v44] h14 fun v45 h46 =>
qG c (.fn 75 [] []) [v43, v45] h46 fun v47 h48 =>
qD v47 0 fun v49 =>
qD v47 1 fun v50 =>
zx s13.2.2.2.2.1 (some 1) v43 h14 h46 h14.nx <|
j41 (v50, v49, ()) h48))) ((iI 0), v12, v11, .nils, s6.2.2.1, ()) h7 [])) fun j8 =>
qi v5 false (
qJ v0 0 fun v51 =>
qX h1 v51 fun v52 =>
q9 v52 fun v53 =>
qq .gtr v53 (iI 40) fun v54 =>
j8 (v54, v5, v0, ()) h1) (
j8 (.undef, v5, v0, ()) h1)
def W37 : WF := w_1 S37
theorem W37_ok : WOk Tryz.prog 37 W37 := jk (pl := P37) fun _ _ _ => by kernel_rfl
def P38 : Pl := .z
def S38 (c : CV) (a0 a1 a2 : AV) (h : AH) : R :=
jX h 31 a0 fun v0 h1 =>
qG c (.fn 77 [] []) [a1, (iI 96)] h1 fun v2 h3 =>
pEq .ptr false v2 .nilp fun v4 =>
qz v4 (
some ((.tup [(iI 0), .nilp, .nilp]), h3)) (
qR h3 v0 1 fun v5 =>
qG c (.fn 12 [] []) [v5, v2, a2] h3 fun v6 h7 =>
pEq .ptr false v6 .nilp fun v8 =>
qz v8 (
some ((.tup [(iI 0), .nilp, .nilp]), h7)) (
qG c (.fn 13 [] []) [v6] h7 fun v9 h10 =>
some ((.tup [v9, v6, v2]), h10)))
def W38 : WF := w_3 S38
theorem W38_ok : WOk Tryz.prog 38 W38 := zZ (pl := P38) fun _ _ _ _ _ => by kernel_rfl
def P39 : Pl := (.n none .z (.n none (.n none (.r [[15, 13, 3, 2, 1, 0], [19, 17, 3, 2, 1, 0], [23, 21, 3, 2, 1, 0]]) .z) (.n none .z (.n none (.r [[33, 31, 10, 9, 3, 2, 1, 0], [40, 35, 3, 2, 1, 0], [47, 42, 3, 2], [54, 49, 3, 2], [61, 56]]) .z))))
def S39 (c : CV) (a0 a1 a2 a3 : AV) (h : AH) : R :=
pEq .ptr false a0 .nilp fun v0 =>
qE (α := u6_0 → AH → R) (fun s1 h2 =>
qn s1.2.1 (.bool true) s1.1 fun v4 =>
qE (α := u6_0 → AH → R) (fun s5 h6 =>
qn s5.2.1 (.bool true) s5.1 fun v8 =>
qE (α := u6_0 → AH → R) (fun s9 h10 =>
qn s9.2.1 (.bool true) s9.1 fun v12 =>
qz v12 (
some ((.bool false), h10)) (
qG c (.fn 16 [] []) [s9.2.2.2.2.2.1] h10 fun v13 h14 =>
qG c (.fn 16 [] []) [s9.2.2.2.2.1] h14 fun v15 h16 =>
pEq .ptr true v13 .nilp fun v17 =>
qE (α := u8_0 → AH → R) (fun s18 h19 =>
qn s18.2.1 s18.1 (.bool false) fun v21 =>
qE (α := u6_0 → AH → R) (fun s22 h23 =>
qn s22.2.1 s22.1 (.bool false) fun v25 =>
qE (α := u4_0 → AH → R) (fun s26 h27 =>
qn s26.2.1 s26.1 (.bool false) fun v29 =>
qE (α := u4_0 → AH → R) (fun s30 h31 =>
qn s30.2.1 s30.1 (.bool false) fun v33 =>
qE (α := u2_0 → AH → R) (fun s34 h35 =>
qn s34.2.1 s34.1 (.bool false) fun v37 =>
some (v37, h35)) fun j36 =>
qi v33 true (
qG c (.fn 33 [] []) [s30.2.2.2.1] h31 fun v38 h39 =>
qG c (.fn 33 [] []) [s30.2.2.1] h39 fun v40 h41 =>
qG c (.fn 32 [] []) [v38, v40] h41 fun v42 h43 =>
j36 (v42, v33, ()) h43) (
j36 (.undef, v33, ()) h31)) fun j32 =>
qi v29 true (
qG c (.fn 31 [] []) [s26.2.2.2.1] h27 fun v44 h45 =>
qG c (.fn 31 [] []) [s26.2.2.1] h45 fun v46 h47 =>
qG c (.fn 30 [] []) [v44, v46] h47 fun v48 h49 =>
j32 (v48, v29, s26.2.2.1, s26.2.2.2.1, ()) h49) (
j32 (.undef, v29, s26.2.2.1, s26.2.2.2.1, ()) h27)) fun j28 =>
qi v25 true (
qG c (.fn 20 [] []) [s22.2.2.2.2.2.1] h23 fun v50 h51 =>
qG c (.fn 20 [] []) [s22.2.2.2.2.1] h51 fun v52 h53 =>
qG c (.fn 46 [] []) [v50, v52] h53 fun v54 h55 =>
j28 (v54, v25, s22.2.2.1, s22.2.2.2.1, ()) h55) (
j28 (.undef, v25, s22.2.2.1, s22.2.2.2.1, ()) h23)) fun j24 =>
qi v21 true (
qG c (.fn 17 [] []) [s18.2.2.2.1] h19 fun v56 h57 =>
qG c (.fn 17 [] []) [s18.2.2.1] h57 fun v58 h59 =>
YL .eql v56 v58 fun v60 =>
j24 (v60, v21, s18.2.2.2.2.1, s18.2.2.2.2.2.1, s18.2.2.2.2.2.2.1, s18.2.2.2.2.2.2.2.1, ()) h59) (
j24 (.undef, v21, s18.2.2.2.2.1, s18.2.2.2.2.2.1, s18.2.2.2.2.2.2.1, s18.2.2.2.2.2.2.2.1, ()) h19)) fun j20 =>
qi v17 true (
pEq .ptr true v15 .nilp fun v61 =>
j20 (v61, v17, v15, v13, s9.2.2.1, s9.2.2.2.1, s9.2.2.2.2.1, s9.2.2.2.2.2.1, ()) h16) (
j20 (.undef, v17, v15, v13, s9.2.2.1, s9.2.2.2.1, s9.2.2.2.2.1, s9.2.2.2.2.2.1, ()) h16))) fun j11 =>
qi v8 false (
pEq .ptr false s5.2.2.1 .nilp fun v62 =>
j11 (v62, v8, s5.2.2.1, s5.2.2.2.1, s5.2.2.2.2.1, s5.2.2.2.2.2.1, ()) h6) (
j11 (.undef, v8, s5.2.2.1, s5.2.2.2.1, s5.2.2.2.2.1, s5.2.2.2.2.2.1, ()) h6)) fun j7 =>
qi v4 false (
pEq .ptr false s1.2.2.2.1 .nilp fun v63 =>
j7 (v63, v4, s1.2.2.1, s1.2.2.2.1, s1.2.2.2.2.1, s1.2.2.2.2.2.1, ()) h2) (
j7 (.undef, v4, s1.2.2.1, s1.2.2.2.1, s1.2.2.2.2.1, s1.2.2.2.2.2.1, ()) h2)) fun j3 =>
qi v0 false (
pEq .ptr false a1 .nilp fun v64 =>
j3 (v64, v0, a3, a2, a1, a0, ()) h) (
j3 (.undef, v0, a3, a2, a1, a0, ()) h)
def W39 : WF := w_4 S39
theorem W39_ok : WOk Tryz.prog 39 W39 := yl (pl := P39) fun _ _ _ _ _ _ => by kernel_rfl
def P46 : Pl := (.n none .z (.n none .z (.n none (.n none .z (.n none (.n (some [5, 1, 0]) .z .z) .z)) .z)))
def S46 (_ : CV) (a0 a1 : AV) (h : AH) : R :=
q9 a0 fun v0 =>
q9 a1 fun v1 =>
qq .neq v0 v1 fun v2 =>
qz v2 (
some ((.bool false), h)) (
zJ (σ := u3_0) NN (fun i6 s3 h4 d5 =>
q9 s3.2.2.1 fun v7 =>
qq .lss s3.1 v7 fun v8 =>
qz v8 (
jz s3.2.2.1 s3.1 1 fun v9 =>
qX h4 v9 fun v10 =>
jz s3.2.1 s3.1 1 fun v11 =>
qX h4 v11 fun v12 =>
qq .neq v10 v12 fun v13 =>
qz v13 (
qT d5 h4 fun h14 =>
some ((.bool false), h14)) (
qq .add s3.1 (iI 1) fun v15 =>
i6 (v15, s3.2.1, s3.2.2.1, ()) h4 d5)) (
qT d5 h4 fun h16 =>
some ((.bool true), h16))) ((iI 0), a1, a0, ()) h [])
def W46 : WF := w_2 S46
theorem W46_ok : WOk Tryz.prog 46 W46 := jC (pl := P46) fun _ _ _ _ => by kernel_rfl
def P47 : Pl := .z
def S47 (c : CV) (a0 : AV) (h : AH) : R :=
pMM false [a0, (iI 96)] fun v0 =>
pMM true [(iI 0), v0] fun v1 =>
qG c (.fn 81 [] []) [] h fun v2 h3 =>
qp h3 136 [.nilp] 1 [(0, 1, v2)] fun v4 h5 =>
qm [(iI 0), .nils] [(0, 1, v1), (1, 1, v4)] fun v6 =>
jX h5 140 v6 fun v7 h8 =>
some (v7, h8)
def W47 : WF := w_1 S47
theorem W47_ok : WOk Tryz.prog 47 W47 := jk (pl := P47) fun _ _ _ => by kernel_rfl
def P48 : Pl := (.n none .z (.n none .z (.n none .z (.n none .z (.n none (.n none .z (.n none (.n (some [27, 26, 6, 5, 1]) .z .z) .z)) (.n none (.n none .z (.n none (.n (some [37, 36, 35, 6, 5, 1]) (.n none .z (.n none .z (.n none (.n (some [37, 36, 35, 6, 5, 1]) .z .z) .z))) .z) .z)) (.n none (.n none .z (.n none (.n (some [57, 56, 55, 6, 5]) (.n none .z (.n none .z (.n none (.n (some [57, 56, 55, 6, 5]) .z .z) .z))) .z) .z)) .z)))))))
def S48 (c : CV) (a0 : AV) (h : AH) : R :=
jX h 31 a0 fun v0 h1 =>
qR h1 v0 1 fun v2 =>
qG c (.fn 37 [] []) [v2] h1 fun v3 h4 =>
qD v3 0 fun _ =>
qD v3 1 fun v6 =>
qq .neq v6 (iI 0) fun v7 =>
qz v7 (
some (.nils, h4)) (
qR h4 v0 1 fun v8 =>
qG c (.fn 76 [] []) [v8] h4 fun v9 h10 =>
qJ v0 0 fun v11 =>
qX h10 v11 fun v12 =>
q9 v12 fun v13 =>
y8 h10 3 [(iI 0)] v13 v13 fun v14 h15 =>
q9 v14 fun v16 =>
zJ (σ := u5_0) NN (fun i20 s17 h18 d19 =>
qq .lss s17.1 s17.2.1 fun v21 =>
qz v21 (
jz s17.2.2.1 s17.1 1 fun v22 =>
qy h18 v22 (.int .i64 (.negSucc 0)) 1 fun h23 =>
qq .add s17.1 (iI 1) fun v24 =>
i20 (v24, s17.2.1, s17.2.2.1, s17.2.2.2.1, s17.2.2.2.2.1, ()) h23 d19) (
qJ s17.2.2.2.2.1 0 fun v25 =>
qX h18 v25 fun v26 =>
q9 v26 fun v27 =>
zJ (σ := u6_0) NN (fun i31 s28 h29 d30 =>
qq .lss s28.1 s28.2.1 fun v32 =>
qz v32 (
qE (α := u6_0 → AH → List Nat → R) (fun s33 h34 d35 =>
qq .add s33.1 (iI 1) fun v37 =>
i31 (v37, s33.2.1, s33.2.2.1, s33.2.2.2.1, s33.2.2.2.2.1, s33.2.2.2.2.2.1, ()) h34 d35) fun j36 =>
jz s28.2.2.1 s28.1 5 fun v38 =>
qR h29 v38 5 fun v39 =>
jX h29 28 (.agg [(iI 0), (iI 0), (iI 0), (iI 0), (uU 0)]) fun v40 h41 =>
qy h41 v40 v39 5 fun h42 =>
qJ v40 0 fun v43 =>
qX h42 v43 fun v44 =>
qG c (.fn 82 [] []) [v44] h42 fun v45 h46 =>
qq .gtr v45 (iI 0) fun v47 =>
qz v47 (
jz s28.2.2.2.2.1 s28.1 1 fun v48 =>
qX h46 v48 fun v49 =>
jz s28.2.2.2.1 v49 1 fun v50 =>
qy h46 v50 s28.1 1 fun h51 =>
j36 (s28.1, s28.2.1, s28.2.2.1, s28.2.2.2.1, s28.2.2.2.2.1, s28.2.2.2.2.2.1, ()) h51 d30) (
j36 (s28.1, s28.2.1, s28.2.2.1, s28.2.2.2.1, s28.2.2.2.2.1, s28.2.2.2.2.2.1, ()) h46 d30)) (
qJ s28.2.2.2.2.2.1 0 fun v52 =>
qX h29 v52 fun v53 =>
q9 v53 fun v54 =>
zJ (σ := u5_0) NN (fun i58 s55 h56 d57 =>
qq .lss s55.1 s55.2.1 fun v59 =>
qz v59 (
qE (α := u5_0 → AH → List Nat → R) (fun s60 h61 d62 =>
qq .add s60.1 (iI 1) fun v64 =>
i58 (v64, s60.2.1, s60.2.2.1, s60.2.2.2.1, s60.2.2.2.2.1, ()) h61 d62) fun j63 =>
jz s55.2.2.1 s55.1 5 fun v65 =>
qR h56 v65 5 fun v66 =>
jX h56 28 (.agg [(iI 0), (iI 0), (iI 0), (iI 0), (uU 0)]) fun v67 h68 =>
qy h68 v67 v66 5 fun h69 =>
qJ v67 0 fun v70 =>
qX h69 v70 fun v71 =>
qq .eql v71 (iI 16) fun v72 =>
qz v72 (
jz s55.2.2.2.2.1 s55.1 1 fun v73 =>
qX h69 v73 fun v74 =>
jz s55.2.2.2.1 v74 1 fun v75 =>
qX h69 v75 fun v76 =>
jz s55.2.2.2.1 s55.1 1 fun v77 =>
qy h69 v77 v76 1 fun h78 =>
j63 (s55.1, s55.2.1, s55.2.2.1, s55.2.2.2.1, s55.2.2.2.2.1, ()) h78 d57) (
j63 (s55.1, s55.2.1, s55.2.2.1, s55.2.2.2.1, s55.2.2.2.2.1, ()) h69 d57)) (
qT d57 h56 fun h79 =>
some (s55.2.2.2.1, h79))) ((iI 0), v54, v53, s28.2.2.2.1, s28.2.2.2.2.1, ()) h29 d30)) ((iI 0), v27, v26, s17.2.2.1, s17.2.2.2.1, s17.2.2.2.2.1, ()) h18 d19)) ((iI 0), v16, v14, v9, v0, ()) h15 [])
def W48 : WF := w_1 S48
theorem W48_ok : WOk Tryz.prog 48 W48 := jk (pl := P48) fun _ _ _ => by kernel_rfl
def P49 : Pl := .z
def S49 (_ : CV) (h : AH) : R :=
qm [.nils] [] fun v0 =>
jX h 109 v0 fun v1 h2 =>
some (v1, h2)
def W49 : WF := w_0 S49
theorem W49_ok : WOk Tryz.prog 49 W49 := Gu (pl := P49) fun _ _ => by kernel_rfl
def P50 : Pl := .z
def S50 (_ : CV) (a0 a1 : AV) (h : AH) : R :=
qF a0 fun v0 =>
qJ v0 5 fun v1 =>
qy h v1 (iI 4) 1 fun h2 =>
qF a0 fun v3 =>
qJ v3 4 fun v4 =>
qy h2 v4 a1 1 fun h5 =>
some ((.tup []), h5)
def W50 : WF := w_2 S50
theorem W50_ok : WOk Tryz.prog 50 W50 := jC (pl := P50) fun _ _ _ _ => by kernel_rfl
def P51 : Pl := (.n none .z (.n none .z (.n none (.n none .z (.n (some []) (.n none .z (.n none .z (.n none .z (.n none .z (.n none .z (.n none .z (.n none .z (.n none .z (.n none .z (.n none .z (.n none .z (.n none .z (.n none .z (.n none .z (.n none .z (.n none .z (.n none .z (.n none .z (.n none .z (.n none .z (.n none .z (.n none .z (.n none .z (.n none .z (.n (some [120, 6, 5, 3, 0]) .z .z))))))))))))))))))))))))) .z)) .z)))
def S51 (c : CV) (a0 a1 : AV) (h : AH) : R :=
jX h 28 a1 fun v0 h1 =>
qJ v0 1 fun v2 =>
qX h1 v2 fun v3 =>
qq .rem v3 (iI 8) fun v4 =>
qF a0 fun v5 =>
qJ v5 6 fun v6 =>
yU v6 v4 8 1 fun v7 =>
qJ v0 2 fun v8 =>
qX h1 v8 fun v9 =>
qq .rem v9 (iI 8) fun v10 =>
qF a0 fun v11 =>
qJ v11 6 fun v12 =>
yU v12 v10 8 1 fun v13 =>
qX h1 v13 fun v14 =>
qJ v0 3 fun v15 =>
qX h1 v15 fun v16 =>
qq .rem v16 (iI 8) fun v17 =>
qF a0 fun v18 =>
qJ v18 6 fun v19 =>
yU v19 v17 8 1 fun v20 =>
qX h1 v20 fun v21 =>
qJ v0 0 fun v22 =>
qX h1 v22 fun v23 =>
qE (α := Unit → AH → List Nat → R) (fun _ h25 d26 =>
qT d26 h25 fun h28 =>
some ((iI 0), h28)) fun j27 =>
qq .eql v23 (iI 1) fun v29 =>
qz v29 (
qJ v0 4 fun v30 =>
qX h1 v30 fun v31 =>
qF v7 fun v32 =>
qy h1 v32 v31 1 fun h33 =>
j27 (()) h33 []) (
qq .eql v23 (iI 2) fun v34 =>
qz v34 (
qF v7 fun v35 =>
qy h1 v35 v14 1 fun h36 =>
j27 (()) h36 []) (
qq .eql v23 (iI 3) fun v37 =>
qz v37 (
qq .add v14 v21 fun v38 =>
qF v7 fun v39 =>
qy h1 v39 v38 1 fun h40 =>
j27 (()) h40 []) (
qq .eql v23 (iI 4) fun v41 =>
qz v41 (
qq .sub v14 v21 fun v42 =>
qF v7 fun v43 =>
qy h1 v43 v42 1 fun h44 =>
j27 (()) h44 []) (
qq .eql v23 (iI 5) fun v45 =>
qz v45 (
qq .mul v14 v21 fun v46 =>
qF v7 fun v47 =>
qy h1 v47 v46 1 fun h48 =>
j27 (()) h48 []) (
qq .eql v23 (iI 6) fun v49 =>
qz v49 (
qq .lss v14 v21 fun v50 =>
qG c (.fn 83 [] []) [v50] h1 fun v51 h52 =>
qF v7 fun v53 =>
qy h52 v53 v51 1 fun h54 =>
j27 (()) h54 []) (
qq .eql v23 (iI 7) fun v55 =>
qz v55 (
qq .eql v14 v21 fun v56 =>
qG c (.fn 83 [] []) [v56] h1 fun v57 h58 =>
qF v7 fun v59 =>
qy h58 v59 v57 1 fun h60 =>
j27 (()) h60 []) (
qq .eql v23 (iI 12) fun v61 =>
qz v61 (
qJ v0 3 fun v62 =>
qX h1 v62 fun v63 =>
qF a0 fun v64 =>
qJ v64 16 fun v65 =>
qy h1 v65 v63 1 fun h66 =>
j27 (()) h66 []) (
qq .eql v23 (iI 13) fun v67 =>
qz v67 (
qF v7 fun v68 =>
qX h1 v68 fun v69 =>
qq .eql v69 (uU 0) fun v70 =>
qz v70 (
qJ v0 3 fun v71 =>
qX h1 v71 fun v72 =>
qF a0 fun v73 =>
qJ v73 16 fun v74 =>
qy h1 v74 v72 1 fun h75 =>
j27 (()) h75 []) (
j27 (()) h1 [])) (
qq .eql v23 (iI 21) fun v76 =>
qz v76 (
qF a0 fun v77 =>
qJ v77 14 fun v78 =>
qX h1 v78 fun v79 =>
qF v7 fun v80 =>
qX h1 v80 fun v81 =>
qG c (.fn 84 [] []) [v79, v81] h1 fun v82 h83 =>
pUn .not v82 fun v84 =>
qz v84 (
some ((iI 5), h83)) (
j27 (()) h83 [])) (
qq .eql v23 (iI 22) fun v85 =>
qz v85 (
some ((iI 13), h1)) (
qq .eql v23 (iI 23) fun v86 =>
qz v86 (
qR h1 v0 5 fun v87 =>
qG c (.fn 85 [] []) [a0, v87] h1 fun v88 h89 =>
some (v88, h89)) (
qE (α := u5_0 → AH → List Nat → R) (fun s90 h91 d92 =>
qz s90.1 (
qR h91 s90.2.2.2.1 5 fun v94 =>
qG c (.fn 86 [] []) [s90.2.2.2.2.1, v94, s90.2.2.1, s90.2.1] h91 fun v95 h96 =>
qT d92 h96 fun h97 =>
some (v95, h97)) (
qR h91 s90.2.2.2.1 5 fun v98 =>
qG c (.fn 87 [] []) [s90.2.2.2.2.1, v98] h91 fun v99 h100 =>
qT d92 h100 fun h101 =>
some (v99, h101))) fun j93 =>
qq .eql v23 (iI 8) fun v102 =>
qz v102 (
j93 (v102, v14, v7, v0, a0, ()) h1 []) (
qq .eql v23 (iI 9) fun v103 =>
qz v103 (
j93 (v103, v14, v7, v0, a0, ()) h1 []) (
qq .eql v23 (iI 10) fun v104 =>
qz v104 (
j93 (v104, v14, v7, v0, a0, ()) h1 []) (
qq .eql v23 (iI 11) fun v105 =>
j93 (v105, v14, v7, v0, a0, ()) h1 [])))))))))))))))
def W51 : WF := w_2 S51
theorem W51_ok : WOk Tryz.prog 51 W51 := jC (pl := P51) fun _ _ _ _ => by kernel_rfl
def P52 : Pl := (.n none .z (.n none (.r [[14, 7]]) .z))
def S52 (_ : CV) (a0 a1 : AV) (h : AH) : R :=
qq .geq a1 (iI 1) fun v0 =>
qE (α := u2_0 → AH → R) (fun s1 h2 =>
qn s1.2.1 s1.1 (.bool false) fun v4 =>
some (v4, h2)) fun j3 =>
qi v0 true (
qF a0 fun v5 =>
qJ v5 0 fun v6 =>
qX h v6 fun v7 =>
q9 v7 fun v8 =>
qq .lss a1 v8 fun v9 =>
j3 (v9, v0, ()) h) (
j3 (.undef, v0, ()) h)
def W52 : WF := w_2 S52
theorem W52_ok : WOk Tryz.prog 52 W52 := jC (pl := P52) fun _ _ _ _ => by kernel_rfl
def P53 : Pl := .z
def S53 (c : CV) (a0 : AV) (h : AH) : R :=
qF a0 fun v0 =>
qJ v0 0 fun v1 =>
qX h v1 fun v2 =>
qG c (.fn 88 [] []) [v2] h fun v3 h4 =>
qm [.nils] [(0, 1, v3)] fun v5 =>
jX h4 109 v5 fun v6 h7 =>
some (v6, h7)
def W53 : WF := w_1 S53
theorem W53_ok : WOk Tryz.prog 53 W53 := jk (pl := P53) fun _ _ _ => by kernel_rfl
def P54 : Pl := .z
def S54 (c : CV) (a0 : AV) (h : AH) : R :=
xc 26 (uU 0) a0 fun v0 =>
qD v0 1 fun v1 =>
qD v0 0 fun v2 =>
qz v1 (
qG c (.fn 89 [] []) [v2, (iI 10)] h fun v3 h4 =>
some (v3, h4)) (
xc 4 (.bool false) a0 fun v5 =>
qD v5 1 fun v6 =>
qD v5 0 fun v7 =>
qz v6 (
qz v7 (
some ((.str [121, 101, 115]), h)) (
some ((.str [110, 111]), h))) (
some ((.str [110, 111, 110, 101]), h)))
def W54 : WF := w_1 S54
theorem W54_ok : WOk Tryz.prog 54 W54 := jk (pl := P54) fun _ _ _ => by kernel_rfl
def P56 : Pl := (.n none .z (.n none .z (.n (some [1, 0]) .z .z)))
def S56 (_ : CV) (a0 a1 a2 : AV) (h : AH) : R :=
qq .sub a2 a1 fun v0 =>
qq .add v0 (iI 1) fun v1 =>
qq .rem a0 v1 fun v2 =>
qE (α := u2_0 → AH → List Nat → R) (fun s3 h4 d5 =>
qq .add s3.1 s3.2.1 fun v7 =>
qT d5 h4 fun h8 =>
some (v7, h8)) fun j6 =>
qq .lss v2 (iI 0) fun v9 =>
qz v9 (
qq .add v2 a2 fun v10 =>
qq .sub v10 a1 fun v11 =>
qq .add v11 (iI 1) fun v12 =>
j6 (a1, v12, ()) h []) (
j6 (a1, v2, ()) h [])
def W56 : WF := w_3 S56
theorem W56_ok : WOk Tryz.prog 56 W56 := zZ (pl := P56) fun _ _ _ _ _ => by kernel_rfl
def P57 : Pl := (.n none .z (.n none .z (.n none (.n none .z (.n none (.n none .z (.n none (.n none (.r [[5, 4]]) .z) .z)) .z)) (.n none (.r [[5, 4]]) .z))))
def S57 (_ : CV) (a0 a1 : AV) (h : AH) : R :=
q9 a1 fun v0 =>
qq .sub v0 (iI 1) fun v1 =>
jz a1 v1 1 fun v2 =>
qX h v2 fun v3 =>
qq .eql v3 (iI 14) fun v4 =>
qz v4 (
qE (α := u2_0 → AH → R) (fun s5 h6 =>
some ((.tup [s5.2.1, s5.1]), h6)) fun j7 =>
qm [(iI 0), (iI 0), (iI 0), (iI 0), (uU 0)] [(0, 1, (iI 15))] fun v8 =>
qp h 28 [(iI 0), (iI 0), (iI 0), (iI 0), (uU 0)] 1 [(0, 5, v8)] fun v9 h10 =>
q8 h10 28 5 a0 v9 fun v11 h12 =>
zi h12 3 1 a1 none (some v1) fun v13 =>
zx a1 (some 196609) v13 h10 h12 h.nx <|
j7 (v13, v11, ()) h12) (
qq .eql v3 (iI 17) fun v14 =>
qz v14 (
zi h 3 1 a1 none (some v1) fun v15 =>
q8 h 3 1 .nils v15 fun v16 h17 =>
qp h17 3 [(iI 0)] 1 [(0, 1, (iI 18))] fun v18 h19 =>
q8 h19 3 1 v16 v18 fun v20 h21 =>
qm [(iI 0), (iI 0), (iI 0), (iI 0), (uU 0)] [(0, 1, (iI 18))] fun v22 =>
qp h21 28 [(iI 0), (iI 0), (iI 0), (iI 0), (uU 0)] 1 [(0, 5, v22)] fun v23 h24 =>
q8 h24 28 5 a0 v23 fun v25 h26 =>
some ((.tup [v25, v20]), h26)) (
qE (α := u2_0 → AH → R) (fun s27 h28 =>
some ((.tup [s27.2.1, s27.1]), h28)) fun j29 =>
qm [(iI 0), (iI 0), (iI 0), (iI 0), (uU 0)] [(0, 1, (iI 19))] fun v30 =>
qp h 28 [(iI 0), (iI 0), (iI 0), (iI 0), (uU 0)] 1 [(0, 5, v30)] fun v31 h32 =>
q8 h32 28 5 a0 v31 fun v33 h34 =>
zi h34 3 1 a1 none (some v1) fun v35 =>
zx a1 (some 196609) v35 h32 h34 h.nx <|
j29 (v35, v33, ()) h34))
def W57 : WF := w_2 S57
theorem W57_ok : WOk Tryz.prog 57 W57 := jC (pl := P57) fun _ _ _ _ => by kernel_rfl
def P58 : Pl := .z
def S58 (c : CV) (a0 : AV) (h : AH) : R :=
qG c (.fn 56 [] []) [a0, (iI 0), (iI 6)] h fun v0 h1 =>
some (v0, h1)
def W58 : WF := w_1 S58
theorem W58_ok : WOk Tryz.prog 58 W58 := jk (pl := P58) fun _ _ _ => by kernel_rfl
def P59 : Pl := (.n none .z (.n none (.r [[5, 4, 3, 2, 1]]) (.n none .z (.n none .z (.n none (.n none .z (.n none (.n (some [23, 22, 7, 6, 5, 4, 3, 2, 1]) .z (.n none .z (.n none .z (.n none .z (.n none .z (.n none .z (.n none .z (.n none .z (.n (some [54, 22, 7, 6, 4, 3, 2, 1]) .z (.n none .z (.n (some [62, 22, 7, 6, 4, 3, 2, 1]) .z (.n none .z (.n none .z (.n none .z (.n none .z (.n none .z (.n (some [86, 22, 7, 6, 4, 3, 2]) .z .z))))))))))))))))) .z)) .z)))))
def S59 (c : CV) (a0 : AV) (h : AH) : R :=
jX h 115 a0 fun v0 h1 =>
jX h1 28 (.agg [(iI 0), (iI 0), (iI 0), (iI 0), (uU 0)]) fun v2 h3 =>
qE (α := u5_0 → AH → R) (fun s4 h5 =>
qJ s4.2.2.2.2.1 3 fun v7 =>
qX h5 v7 fun v8 =>
qG c (.fn 56 [] []) [v8, (iI 6), (iI 15)] h5 fun v9 h10 =>
qJ s4.2.2.2.2.1 0 fun v11 =>
qX h10 v11 fun v12 =>
qG c (.fn 56 [] []) [v12, (iI 0), (iI 19)] h10 fun v13 h14 =>
qE (α := u9_0 → AH → List Nat → R) (fun s15 h16 d17 =>
qz s15.1 (
qJ s15.2.2.2.2.2.2.2.2.1 4 fun v19 =>
qX h16 v19 fun v20 =>
qm [(iI 0), (iI 0), (iI 0), (iI 0), (uU 0)] [(0, 1, (iI 1)), (1, 1, s15.2.2.2.2.2.2.1), (4, 1, v20)] fun v21 =>
qy h16 s15.2.2.2.2.2.2.2.1 v21 5 fun h22 =>
qT d17 h22 fun h23 =>
qR h23 s15.2.2.2.2.2.2.2.1 5 fun v24 =>
some (v24, h23)) (
qq .eql s15.2.1 (iI 2) fun v25 =>
qz v25 (
qJ s15.2.2.2.2.2.2.2.2.1 4 fun v26 =>
qX h16 v26 fun v27 =>
qq .rem v27 (uU 20) fun v28 =>
qm [(iI 0), (iI 0), (iI 0), (iI 0), (uU 0)] [(0, 1, (iI 1)), (1, 1, s15.2.2.2.2.2.2.1), (4, 1, v28)] fun v29 =>
qy h16 s15.2.2.2.2.2.2.2.1 v29 5 fun h30 =>
qT d17 h30 fun h31 =>
qR h31 s15.2.2.2.2.2.2.2.1 5 fun v32 =>
some (v32, h31)) (
qq .eql s15.2.1 (iI 3) fun v33 =>
qz v33 (
qm [(iI 0), (iI 0), (iI 0), (iI 0), (uU 0)] [(0, 1, (iI 2)), (1, 1, s15.2.2.2.2.2.2.1), (2, 1, s15.2.2.2.2.2.1)] fun v34 =>
qy h16 s15.2.2.2.2.2.2.2.1 v34 5 fun h35 =>
qT d17 h35 fun h36 =>
qR h36 s15.2.2.2.2.2.2.2.1 5 fun v37 =>
some (v37, h36)) (
qq .eql s15.2.1 (iI 4) fun v38 =>
qz v38 (
qJ s15.2.2.2.2.2.2.2.2.1 4 fun v39 =>
qX h16 v39 fun v40 =>
qq .rem v40 (uU 64) fun v41 =>
jR .i64 v41 fun v42 =>
qG c (.fn 56 [] []) [v42, (iI 0), (iI 4)] h16 fun v43 h44 =>
qq .add (iI 3) v43 fun v45 =>
qm [(iI 0), (iI 0), (iI 0), (iI 0), (uU 0)] [(0, 1, v45), (1, 1, s15.2.2.2.2.2.2.1), (2, 1, s15.2.2.2.2.2.1), (3, 1, s15.2.2.2.2.1)] fun v46 =>
qy h44 s15.2.2.2.2.2.2.2.1 v46 5 fun h47 =>
qT d17 h47 fun h48 =>
qR h48 s15.2.2.2.2.2.2.2.1 5 fun v49 =>
some (v49, h48)) (
qE (α := u8_0 → AH → List Nat → R) (fun s50 h51 d52 =>
qz s50.1 (
qm [(iI 0), (iI 0), (iI 0), (iI 0), (uU 0)] [(0, 1, (iI 8)), (1, 1, s50.2.2.2.2.2.1), (2, 1, s50.2.2.2.1), (3, 1, s50.2.2.1)] fun v54 =>
qy h51 s50.2.2.2.2.2.2.1 v54 5 fun h55 =>
qT d52 h55 fun h56 =>
qR h56 s50.2.2.2.2.2.2.1 5 fun v57 =>
some (v57, h56)) (
qE (α := u8_0 → AH → List Nat → R) (fun s58 h59 d60 =>
qz s58.1 (
qm [(iI 0), (iI 0), (iI 0), (iI 0), (uU 0)] [(0, 1, (iI 9)), (1, 1, s58.2.2.2.1), (2, 1, s58.2.2.2.2.1), (3, 1, s58.2.2.1)] fun v62 =>
qy h59 s58.2.2.2.2.2.2.1 v62 5 fun h63 =>
qT d60 h63 fun h64 =>
qR h64 s58.2.2.2.2.2.2.1 5 fun v65 =>
some (v65, h64)) (
qq .eql s58.2.1 (iI 11) fun v66 =>
qz v66 (
qJ s58.2.2.2.2.2.2.2.1 3 fun v67 =>
qX h59 v67 fun v68 =>
qG c (.fn 56 [] []) [v68, (iI 0), (iI 3)] h59 fun v69 h70 =>
qm [(iI 0), (iI 0), (iI 0), (iI 0), (uU 0)] [(0, 1, (iI 8)), (1, 1, s58.2.2.2.2.2.1), (2, 1, s58.2.2.2.2.1), (3, 1, v69)] fun v71 =>
qy h70 s58.2.2.2.2.2.2.1 v71 5 fun h72 =>
qT d60 h72 fun h73 =>
qR h73 s58.2.2.2.2.2.2.1 5 fun v74 =>
some (v74, h73)) (
qq .eql s58.2.1 (iI 12) fun v75 =>
qz v75 (
qJ s58.2.2.2.2.2.2.2.1 3 fun v76 =>
qX h59 v76 fun v77 =>
qG c (.fn 56 [] []) [v77, (iI 0), (iI 3)] h59 fun v78 h79 =>
qm [(iI 0), (iI 0), (iI 0), (iI 0), (uU 0)] [(0, 1, (iI 9)), (1, 1, s58.2.2.2.2.2.1), (2, 1, s58.2.2.2.2.1), (3, 1, v78)] fun v80 =>
qy h79 s58.2.2.2.2.2.2.1 v80 5 fun h81 =>
qT d60 h81 fun h82 =>
qR h82 s58.2.2.2.2.2.2.1 5 fun v83 =>
some (v83, h82)) (
qE (α := u7_0 → AH → List Nat → R) (fun s84 h85 d86 =>
qz s84.1 (
qm [(iI 0), (iI 0), (iI 0), (iI 0), (uU 0)] [(0, 1, (iI 10)), (1, 1, s84.2.2.2.2.2.1), (2, 1, s84.2.2.2.2.1)] fun v88 =>
qy h85 s84.2.2.2.2.2.2.1 v88 5 fun h89 =>
qT d86 h89 fun h90 =>
qR h90 s84.2.2.2.2.2.2.1 5 fun v91 =>
some (v91, h90)) (
qq .eql s84.2.1 (iI 15) fun v92 =>
qz v92 (
qm [(iI 0), (iI 0), (iI 0), (iI 0), (uU 0)] [(0, 1, (iI 11)), (1, 1, s84.2.2.2.2.2.1)] fun v93 =>
qy h85 s84.2.2.2.2.2.2.1 v93 5 fun h94 =>
qT d86 h94 fun h95 =>
qR h95 s84.2.2.2.2.2.2.1 5 fun v96 =>
some (v96, h95)) (
qq .eql s84.2.1 (iI 16) fun v97 =>
qz v97 (
qm [(iI 0), (iI 0), (iI 0), (iI 0), (uU 0)] [(0, 1, (iI 8)), (1, 1, s84.2.2.2.2.2.1), (2, 1, s84.2.2.2.1), (3, 1, s84.2.2.1)] fun v98 =>
qy h85 s84.2.2.2.2.2.2.1 v98 5 fun h99 =>
qT d86 h99 fun h100 =>
qR h100 s84.2.2.2.2.2.2.1 5 fun v101 =>
some (v101, h100)) (
qm [(iI 0), (iI 0), (iI 0), (iI 0), (uU 0)] [(0, 1, (iI 21)), (1, 1, s84.2.2.2.2.2.1)] fun v102 =>
qy h85 s84.2.2.2.2.2.2.1 v102 5 fun h103 =>
qT d86 h103 fun h104 =>
qR h104 s84.2.2.2.2.2.2.1 5 fun v105 =>
some (v105, h104))))) fun j87 =>
qq .eql s58.2.1 (iI 13) fun v106 =>
qz v106 (
j87 (v106, s58.2.1, s58.2.2.1, s58.2.2.2.1, s58.2.2.2.2.1, s58.2.2.2.2.2.1, s58.2.2.2.2.2.2.1, ()) h59 d60) (
qq .eql s58.2.1 (iI 14) fun v107 =>
j87 (v107, s58.2.1, s58.2.2.1, s58.2.2.2.1, s58.2.2.2.2.1, s58.2.2.2.2.2.1, s58.2.2.2.2.2.2.1, ()) h59 d60))))) fun j61 =>
qq .eql s50.2.1 (iI 8) fun v108 =>
qz v108 (
j61 (v108, s50.2.1, s50.2.2.1, s50.2.2.2.1, s50.2.2.2.2.1, s50.2.2.2.2.2.1, s50.2.2.2.2.2.2.1, s50.2.2.2.2.2.2.2.1, ()) h51 d52) (
qq .eql s50.2.1 (iI 9) fun v109 =>
qz v109 (
j61 (v109, s50.2.1, s50.2.2.1, s50.2.2.2.1, s50.2.2.2.2.1, s50.2.2.2.2.2.1, s50.2.2.2.2.2.2.1, s50.2.2.2.2.2.2.2.1, ()) h51 d52) (
qq .eql s50.2.1 (iI 10) fun v110 =>
j61 (v110, s50.2.1, s50.2.2.1, s50.2.2.2.1, s50.2.2.2.2.1, s50.2.2.2.2.2.1, s50.2.2.2.2.2.2.1, s50.2.2.2.2.2.2.2.1, ()) h51 d52)))) fun j53 =>
qq .eql s15.2.1 (iI 5) fun v111 =>
qz v111 (
j53 (v111, s15.2.1, s15.2.2.1, s15.2.2.2.1, s15.2.2.2.2.2.1, s15.2.2.2.2.2.2.1, s15.2.2.2.2.2.2.2.1, s15.2.2.2.2.2.2.2.2.1, ()) h16 d17) (
qq .eql s15.2.1 (iI 6) fun v112 =>
qz v112 (
j53 (v112, s15.2.1, s15.2.2.1, s15.2.2.2.1, s15.2.2.2.2.2.1, s15.2.2.2.2.2.2.1, s15.2.2.2.2.2.2.2.1, s15.2.2.2.2.2.2.2.2.1, ()) h16 d17) (
qq .eql s15.2.1 (iI 7) fun v113 =>
j53 (v113, s15.2.1, s15.2.2.1, s15.2.2.2.1, s15.2.2.2.2.2.1, s15.2.2.2.2.2.2.1, s15.2.2.2.2.2.2.2.1, s15.2.2.2.2.2.2.2.2.1, ()) h16 d17))))))) fun j18 =>
qq .eql v13 (iI 0) fun v114 =>
qz v114 (
j18 (v114, v13, v9, (iI 7), s4.1, s4.2.1, s4.2.2.1, s4.2.2.2.1, s4.2.2.2.2.1, ()) h14 []) (
qq .eql v13 (iI 1) fun v115 =>
j18 (v115, v13, v9, (iI 7), s4.1, s4.2.1, s4.2.2.1, s4.2.2.2.1, s4.2.2.2.2.1, ()) h14 [])) fun j6 =>
qJ v0 1 fun v116 =>
qX h3 v116 fun v117 =>
qG c (.fn 58 [] []) [v117] h3 fun v118 h119 =>
qJ v0 2 fun v120 =>
qX h119 v120 fun v121 =>
qG c (.fn 58 [] []) [v121] h119 fun v122 h123 =>
qJ v0 3 fun v124 =>
qX h123 v124 fun v125 =>
qG c (.fn 58 [] []) [v125] h123 fun v126 h127 =>
zx v124 none v125 h119 h123 h3.nx <|
zx v124 none v125 h3 h119 h3.nx <|
zx v120 none v121 h3 h119 h3.nx <|
j6 (v126, v122, v118, v2, v0, ()) h127
def W59 : WF := w_1 S59
theorem W59_ok : WOk Tryz.prog 59 W59 := jk (pl := P59) fun _ _ _ => by kernel_rfl
def P69 : Pl := (.n none .z (.n none .z (.n none (.n none .z (.n none (.n (some [3]) .z .z) .z)) .z)))
def S69 (c : CV) (a0 : AV) (h : AH) : R :=
jX h 52 .nils fun v0 h1 =>
qF a0 fun v2 =>
qJ v2 1 fun v3 =>
qX h1 v3 fun v4 =>
qG c (.fn 99 [] []) [v4] h1 fun v5 h6 =>
JN c v5 [.yield (h6.new .dfd).nx] ((h6.new .dfd).new (.loop .ready none 69 [1, 1, 0, 1, 0] [3] [v0] h6.nx)) fun _ h7 =>
ve h7 (h6.new .dfd).nx fun p9 h8 =>
Jh p9 (
qX h8 v0 fun v10 =>
qT (h6.nx :: []) h8 fun h11 =>
some (v10, h11)) <|
none
def W69 : WF := w_1 S69
theorem W69_ok : WOk Tryz.prog 69 W69 := jk (pl := P69) fun _ _ _ => by kernel_rfl
def P70 : Pl := (.n none .z (.n none .z (.n none (.n none .z (.n none (.n (some [11, 10, 9, 3]) .z .z) .z)) .z)))
def S70 (_ : CV) (a0 : AV) (h : AH) : R :=
qF a0 fun v0 =>
qJ v0 1 fun v1 =>
qX h v1 fun v2 =>
q9 v2 fun v3 =>
zJ (σ := u4_0) NN (fun i7 s4 h5 d6 =>
qq .lss s4.1 s4.2.1 fun v8 =>
qz v8 (
jz s4.2.2.1 s4.1 1 fun v9 =>
qX h5 v9 fun v10 =>
qF v10 fun v11 =>
qJ v11 1 fun v12 =>
qX h5 v12 fun v13 =>
q8 h5 3 1 s4.2.2.2.1 v13 fun v14 h15 =>
qq .add s4.1 (iI 1) fun v16 =>
i7 (v16, s4.2.1, s4.2.2.1, v14, ()) h15 d6) (
qT d6 h5 fun h17 =>
some (s4.2.2.2.1, h17))) ((iI 0), v3, v2, .nils, ()) h []
def W70 : WF := w_1 S70
theorem W70_ok : WOk Tryz.prog 70 W70 := jk (pl := P70) fun _ _ _ => by kernel_rfl
def P72 : Pl := (.n none .z (.n none (.n none (.n none .z (.n none .z (.n none (.r [[11, 5, 3, 1]]) (.n none .z (.n none (.r [[33, 29, 5, 1]]) (.n none .z (.n none (.r [[42, 39]]) .z))))))) .z) .z))
def S72 (c : CV) (a0 a1 a2 : AV) (h : AH) : R :=
jX h 31 a0 fun v0 h1 =>
jX h1 28 a2 fun v2 h3 =>
qR h3 v2 5 fun v4 =>
qG c (.fn 103 [] []) [v4] h3 fun v5 h6 =>
pUn .not v5 fun v7 =>
qz v7 (
some ((iI 8), h6)) (
qE (α := u4_0 → AH → R) (fun s8 h9 =>
qz s8.1 (
some ((iI 12), h9)) (
qJ s8.2.1 0 fun v11 =>
qX h9 v11 fun v12 =>
qq .eql v12 (iI 16) fun v13 =>
qE (α := u4_0 → AH → R) (fun s14 h15 =>
qn s14.2.1 s14.1 (.bool false) fun v17 =>
qz v17 (
some ((iI 12), h15)) (
qJ s14.2.2.1 0 fun v18 =>
qX h15 v18 fun v19 =>
qG c (.fn 105 [] []) [v19] h15 fun v20 h21 =>
qE (α := u2_0 → AH → R) (fun s22 h23 =>
qn s22.2.1 s22.1 (.bool false) fun v25 =>
qz v25 (
some ((iI 9), h23)) (
some ((iI 0), h23))) fun j24 =>
qi v20 true (
q9 s14.2.2.2.1 fun v26 =>
qq .geq v26 (iI 5) fun v27 =>
j24 (v27, v20, ()) h21) (
j24 (.undef, v20, ()) h21))) fun j16 =>
qi v13 true (
qR h9 s8.2.2.1 1 fun v28 =>
qG c (.fn 104 [] []) [s8.2.2.2.1, v28] h9 fun v29 h30 =>
qq .neq v29 (iI 14) fun v31 =>
j16 (v31, v13, s8.2.1, s8.2.2.2.1, ()) h30) (
j16 (.undef, v13, s8.2.1, s8.2.2.2.1, ()) h9))) fun j10 =>
qJ v2 0 fun v32 =>
qX h6 v32 fun v33 =>
qG c (.fn 82 [] []) [v33] h6 fun v34 h35 =>
qq .gtr v34 (iI 0) fun v36 =>
qi v36 true (
qR h35 v0 1 fun v37 =>
qG c (.fn 104 [] []) [a1, v37] h35 fun v38 h39 =>
qJ v2 0 fun v40 =>
qX h39 v40 fun v41 =>
qG c (.fn 82 [] []) [v41] h39 fun v42 h43 =>
qq .neq v38 v42 fun v44 =>
qn v36 v44 (.bool false) fun v45 =>
zx v40 none v41 h35 h39 h6.nx <|
j10 (v45, v2, v0, a1, ()) h43) (
qn v36 .undef (.bool false) fun v46 =>
j10 (v46, v2, v0, a1, ()) h35))
def W72 : WF := w_3 S72
theorem W72_ok : WOk Tryz.prog 72 W72 := zZ (pl := P72) fun _ _ _ _ _ => by kernel_rfl
def P73 : Pl := (.n none .z (.n (some [2, 1, 0]) .z (.n (some [0]) (.n none (.r [[19, 17, 1, 0]]) .z) .z)))
def S73 (c : CV) (a0 a1 a2 : AV) (h : AH) : R :=
qE (α := u3_0 → AH → List Nat → R) (fun s0 h1 d2 =>
qE (α := AV × Unit → AH → List Nat → R) (fun s4 h5 d6 =>
qT d6 h5 fun h8 =>
some (s4.1, h8)) fun j7 =>
qG c (.fn 105 [] []) [s0.1] h1 fun v9 h10 =>
qE (α := u4_0 → AH → R) (fun s11 h12 =>
qn s11.2.1 (.bool true) s11.1 fun v14 =>
qz v14 (
qp h12 3 [(iI 0)] 1 [(0, 1, s11.2.2.1)] fun v15 h16 =>
q8 h16 3 1 s11.2.2.2.1 v15 fun v17 h18 =>
j7 (v17, ()) h18 d2) (
j7 (s11.2.2.2.1, ()) h12 d2)) fun j13 =>
qi v9 false (
qq .eql s0.1 (iI 18) fun v19 =>
j13 (v19, v9, s0.2.1, s0.2.2.1, ()) h10) (
j13 (.undef, v9, s0.2.1, s0.2.2.1, ()) h10)) fun j3 =>
qG c (.fn 82 [] []) [a2] h fun v20 h21 =>
qq .gtr v20 (iI 0) fun v22 =>
qz v22 (
q9 a0 fun v23 =>
qq .sub v23 (iI 1) fun v24 =>
zi h21 3 1 a0 none (some v24) fun v25 =>
j3 (a2, a1, v25, ()) h21 []) (
j3 (a2, a1, a0, ()) h21 [])
def W73 : WF := w_3 S73
theorem W73_ok : WOk Tryz.prog 73 W73 := zZ (pl := P73) fun _ _ _ _ _ => by kernel_rfl
def P74 : Pl := .z
def S74 (_ : CV) (a0 : AV) (h : AH) : R :=
q9 a0 fun v0 =>
qq .eql v0 (iI 0) fun v1 =>
qz v1 (
some ((.int .i64 (.negSucc 0)), h)) (
q9 a0 fun v2 =>
qq .sub v2 (iI 1) fun v3 =>
jz a0 v3 1 fun v4 =>
qX h v4 fun v5 =>
some (v5, h))
def W74 : WF := w_1 S74
theorem W74_ok : WOk Tryz.prog 74 W74 := jk (pl := P74) fun _ _ _ => by kernel_rfl
def P75 : Pl := (.n none .z (.n none (.n none .z (.n none (.n (some [11, 10, 9, 2, 1]) (.n none .z (.n none .z (.n none (.n (some [11, 10, 9, 2, 1]) (.n none .z (.n none .z (.n none (.r [[33, 26, 11, 10, 9, 7, 6, 2, 1], [38, 33, 26, 11, 10, 9, 7, 6, 2, 1], [39, 26, 11, 10, 9, 7, 6, 2, 1], [48, 41, 11, 10, 9, 7, 6, 2, 1], [58, 48, 41, 11, 10, 9, 6, 2, 1], [59, 41, 11, 10, 9, 6, 2, 1]]) .z))) .z) .z))) .z) .z)) .z))
def S75 (c : CV) (a0 a1 : AV) (h : AH) : R :=
jX h 31 a0 fun v0 h1 =>
qJ v0 0 fun v2 =>
qX h1 v2 fun v3 =>
q9 v3 fun v4 =>
zJ (σ := u5_0) NN (fun i8 s5 h6 d7 =>
qq .lss s5.1 s5.2.1 fun v9 =>
qz v9 (
qE (α := u5_0 → AH → List Nat → R) (fun s10 h11 d12 =>
qq .add s10.1 (iI 1) fun v14 =>
i8 (v14, s10.2.1, s10.2.2.1, s10.2.2.2.1, s10.2.2.2.2.1, ()) h11 d12) fun j13 =>
jz s5.2.2.1 s5.1 5 fun v15 =>
qR h6 v15 5 fun v16 =>
jX h6 28 (.agg [(iI 0), (iI 0), (iI 0), (iI 0), (uU 0)]) fun v17 h18 =>
qy h18 v17 v16 5 fun h19 =>
qJ v17 0 fun v20 =>
qX h19 v20 fun v21 =>
qG c (.fn 106 [] []) [v21] h19 fun v22 h23 =>
pUn .not v22 fun v24 =>
qz v24 (
j13 (s5.1, s5.2.1, s5.2.2.1, s5.2.2.2.1, s5.2.2.2.2.1, ()) h23 d7) (
qJ v17 3 fun v25 =>
qX h23 v25 fun v26 =>
qJ s5.2.2.2.1 0 fun v27 =>
qX h23 v27 fun v28 =>
q9 v28 fun v29 =>
qq .gtr v26 v29 fun v30 =>
qE (α := u9_0 → AH → R) (fun s31 h32 =>
qE (α := AV × AV × AV × AV × AV × AV × AV × AV × AV × AV × Unit → AH → R) (fun s34 h35 =>
qE (α := u9_0 → AH → R) (fun s37 h38 =>
qn s37.2.1 (.bool true) s37.1 fun v40 =>
qE (α := u9_0 → AH → R) (fun s41 h42 =>
qE (α := u9_0 → AH → R) (fun s44 h45 =>
qE (α := u8_0 → AH → R) (fun s47 h48 =>
qn s47.2.1 (.bool true) s47.1 fun v50 =>
qz v50 (
qT d7 h48 fun h51 =>
some ((.tup [s47.2.2.2.2.2.1, (iI 2)]), h51)) (
j13 (s47.2.2.1, s47.2.2.2.1, s47.2.2.2.2.1, s47.2.2.2.2.2.2.1, s47.2.2.2.2.2.2.2.1, ()) h48 d7)) fun j49 =>
qi s44.2.2.1 false (
qn s44.2.1 s44.1 (.bool false) fun v52 =>
j49 (v52, s44.2.2.1, s44.2.2.2.1, s44.2.2.2.2.1, s44.2.2.2.2.2.1, s44.2.2.2.2.2.2.1, s44.2.2.2.2.2.2.2.1, s44.2.2.2.2.2.2.2.2.1, ()) h45) (
j49 (.undef, s44.2.2.1, s44.2.2.2.1, s44.2.2.2.2.1, s44.2.2.2.2.2.1, s44.2.2.2.2.2.2.1, s44.2.2.2.2.2.2.2.1, s44.2.2.2.2.2.2.2.2.1, ()) h45)) fun j46 =>
qi s41.1 true (
qJ s41.2.2.2.2.2.1 3 fun v53 =>
qX h42 v53 fun v54 =>
jz s41.2.2.2.2.2.2.2.2.1 v54 1 fun v55 =>
qX h42 v55 fun v56 =>
jz s41.2.2.2.2.2.2.2.2.1 s41.2.2.2.2.2.2.1 1 fun v57 =>
qX h42 v57 fun v58 =>
qq .neq v56 v58 fun v59 =>
j46 (v59, s41.1, s41.2.1, s41.2.2.1, s41.2.2.2.1, s41.2.2.2.2.1, s41.2.2.2.2.2.2.1, s41.2.2.2.2.2.2.2.1, s41.2.2.2.2.2.2.2.2.1, ()) h42) (
j46 (.undef, s41.1, s41.2.1, s41.2.2.1, s41.2.2.2.1, s41.2.2.2.2.1, s41.2.2.2.2.2.2.1, s41.2.2.2.2.2.2.2.1, s41.2.2.2.2.2.2.2.2.1, ()) h42)) fun j43 =>
qi v40 false (
qJ s37.2.2.2.2.2.1 3 fun v60 =>
qX h38 v60 fun v61 =>
qJ s37.2.2.2.2.2.2.2.1 0 fun v62 =>
qX h38 v62 fun v63 =>
q9 v63 fun v64 =>
qq .lss v61 v64 fun v65 =>
j43 (v65, v40, s37.2.2.1, s37.2.2.2.1, s37.2.2.2.2.1, s37.2.2.2.2.2.1, s37.2.2.2.2.2.2.1, s37.2.2.2.2.2.2.2.1, s37.2.2.2.2.2.2.2.2.1, ()) h38) (
j43 (.undef, v40, s37.2.2.1, s37.2.2.2.1, s37.2.2.2.2.1, s37.2.2.2.2.2.1, s37.2.2.2.2.2.2.1, s37.2.2.2.2.2.2.2.1, s37.2.2.2.2.2.2.2.2.1, ()) h38)) fun j39 =>
qi s34.2.2.1 false (
qn s34.2.1 s34.1 (.bool false) fun v66 =>
j39 (v66, s34.2.2.1, s34.2.2.2.1, s34.2.2.2.2.1, s34.2.2.2.2.2.1, s34.2.2.2.2.2.2.1, s34.2.2.2.2.2.2.2.1, s34.2.2.2.2.2.2.2.2.1, s34.2.2.2.2.2.2.2.2.2.1, ()) h35) (
j39 (.undef, s34.2.2.1, s34.2.2.2.1, s34.2.2.2.2.1, s34.2.2.2.2.2.1, s34.2.2.2.2.2.2.1, s34.2.2.2.2.2.2.2.1, s34.2.2.2.2.2.2.2.2.1, s34.2.2.2.2.2.2.2.2.2.1, ()) h35)) fun j36 =>
qi s31.1 true (
jz s31.2.2.2.2.2.2.2.2.1 s31.2.2.2.2.2.2.1 1 fun v67 =>
qX h32 v67 fun v68 =>
qq .neq v68 (.int .i64 (.negSucc 0)) fun v69 =>
j36 (v69, s31.1, s31.2.1, s31.2.2.1, s31.2.2.2.1, s31.2.2.2.2.1, s31.2.2.2.2.2.1, s31.2.2.2.2.2.2.1, s31.2.2.2.2.2.2.2.1, s31.2.2.2.2.2.2.2.2.1, ()) h32) (
j36 (.undef, s31.1, s31.2.1, s31.2.2.1, s31.2.2.2.1, s31.2.2.2.2.1, s31.2.2.2.2.2.1, s31.2.2.2.2.2.2.1, s31.2.2.2.2.2.2.2.1, s31.2.2.2.2.2.2.2.2.1, ()) h32)) fun j33 =>
qi v30 false (
qJ v17 3 fun v70 =>
qX h23 v70 fun v71 =>
qJ s5.2.2.2.1 0 fun v72 =>
qX h23 v72 fun v73 =>
q9 v73 fun v74 =>
qq .eql v71 v74 fun v75 =>
j33 (v75, v30, s5.1, s5.2.1, s5.2.2.1, v17, s5.1, s5.2.2.2.1, s5.2.2.2.2.1, ()) h23) (
j33 (.undef, v30, s5.1, s5.2.1, s5.2.2.1, v17, s5.1, s5.2.2.2.1, s5.2.2.2.2.1, ()) h23))) (
qT d7 h6 fun h76 =>
some ((.tup [(iI 0), (iI 0)]), h76))) ((iI 0), v4, v3, v0, a1, ()) h1 []
def W75 : WF := w_2 S75
theorem W75_ok : WOk Tryz.prog 75 W75 := jC (pl := P75) fun _ _ _ _ => by kernel_rfl
def P76 : Pl := (.n none .z (.n none .z (.n none .z (.n none (.n none .z (.n none (.n (some [14, 13, 12, 4, 3]) .z .z) .z)) .z))))
def S76 (c : CV) (a0 : AV) (h : AH) : R :=
jX h 31 a0 fun v0 h1 =>
qJ v0 0 fun v2 =>
qX h1 v2 fun v3 =>
q9 v3 fun v4 =>
y8 h1 3 [(iI 0)] v4 v4 fun v5 h6 =>
qJ v0 0 fun v7 =>
qX h6 v7 fun v8 =>
q9 v8 fun v9 =>
zJ (σ := u5_0) NN (fun i13 s10 h11 d12 =>
qq .lss s10.1 s10.2.1 fun v14 =>
qz v14 (
jz s10.2.2.1 s10.1 5 fun v15 =>
qR h11 v15 5 fun v16 =>
jX h11 28 (.agg [(iI 0), (iI 0), (iI 0), (iI 0), (uU 0)]) fun v17 h18 =>
qy h18 v17 v16 5 fun h19 =>
qG c (.fn 74 [] []) [s10.2.2.2.1] h19 fun v20 h21 =>
jz s10.2.2.2.2.1 s10.1 1 fun v22 =>
qy h21 v22 v20 1 fun h23 =>
qJ v17 0 fun v24 =>
qX h23 v24 fun v25 =>
qG c (.fn 73 [] []) [s10.2.2.2.1, s10.1, v25] h23 fun v26 h27 =>
qq .add s10.1 (iI 1) fun v28 =>
i13 (v28, s10.2.1, s10.2.2.1, v26, s10.2.2.2.2.1, ()) h27 d12) (
qT d12 h11 fun h29 =>
some (s10.2.2.2.2.1, h29))) ((iI 0), v9, v8, .nils, v5, ()) h6 []
def W76 : WF := w_1 S76
theorem W76_ok : WOk Tryz.prog 76 W76 := jk (pl := P76) fun _ _ _ => by kernel_rfl
def P77 : Pl := (.n none .z (.n none .z (.n none (.n none .z (.n none (.n (some [6, 5, 0]) (.n none .z (.n none (.n none (.n none .z (.n (some [7, 6, 5, 0]) .z .z)) .z) .z)) .z) .z)) .z)))
def S77 (c : CV) (a0 a1 : AV) (h : AH) : R :=
q9 a0 fun v0 =>
qG c (.fn 11 [] []) [v0, a1] h fun v1 h2 =>
zJ (σ := u3_0) NN (fun i6 s3 h4 d5 =>
qG c (.fn 107 [] []) [s3.2.1] h4 fun v7 h8 =>
qq .lss s3.1 v7 fun v9 =>
qz v9 (
qE (α := u4_0 → AH → List Nat → R) (fun s10 h11 d12 =>
qG c (.fn 15 [] []) [s10.2.2.1, s10.2.1, s10.1] h11 fun _ h15 =>
qq .add s10.2.1 (iI 1) fun v16 =>
i6 (v16, s10.2.2.1, s10.2.2.2.1, ()) h15 d12) fun j13 =>
q9 s3.2.2.1 fun v17 =>
qq .lss s3.1 v17 fun v18 =>
qz v18 (
jz s3.2.2.1 s3.1 1 fun v19 =>
qX h8 v19 fun v20 =>
j13 (v20, s3.1, s3.2.1, s3.2.2.1, ()) h8 d5) (
j13 ((uU 0), s3.1, s3.2.1, s3.2.2.1, ()) h8 d5)) (
qT d5 h8 fun h21 =>
some (s3.2.1, h21))) ((iI 1), v1, a0, ()) h2 []
def W77 : WF := w_2 S77
theorem W77_ok : WOk Tryz.prog 77 W77 := jC (pl := P77) fun _ _ _ _ => by kernel_rfl
def P81 : Pl := .z
def S81 (c : CV) (h : AH) : R :=
qG c (.fn 100 [] []) [(iI 96)] h fun v0 h1 =>
qm [.nilp, .nils] [(0, 1, v0)] fun v2 =>
jX h1 171 v2 fun v3 h4 =>
some (v3, h4)
def W81 : WF := w_0 S81
theorem W81_ok : WOk Tryz.prog 81 W81 := Gu (pl := P81) fun _ _ => by kernel_rfl
def P82 : Pl := .z
def S82 (_ : CV) (a0 : AV) (h : AH) : R :=
qq .eql a0 (iI 15) fun v0 =>
qz v0 (
some ((iI 14), h)) (
qq .eql a0 (iI 18) fun v1 =>
qz v1 (
some ((iI 17), h)) (
qq .eql a0 (iI 19) fun v2 =>
qz v2 (
some ((iI 18), h)) (
some ((iI 0), h))))
def W82 : WF := w_1 S82
theorem W82_ok : WOk Tryz.prog 82 W82 := jk (pl := P82) fun _ _ _ => by kernel_rfl
def P83 : Pl := .z
def S83 (_ : CV) (a0 : AV) (h : AH) : R :=
qz a0 (
some ((uU 1), h)) (
some ((uU 0), h))
def W83 : WF := w_1 S83
theorem W83_ok : WOk Tryz.prog 83 W83 := jk (pl := P83) fun _ _ _ => by kernel_rfl
def P84 : Pl := .z
def S84 (c : CV) (a0 a1 : AV) (h : AH) : R :=
qG c (.fn 112 [] []) [a0, (.iface 26 a1)] h fun v0 h1 =>
some (v0, h1)
def W84 : WF := w_2 S84
theorem W84_ok : WOk Tryz.prog 84 W84 := jC (pl := P84) fun _ _ _ _ => by kernel_rfl
def P85 : Pl := (.n none .z (.n none .z (.n none (.n none .z (.n none (.n none .z (.n none (.n none (.r [[4]]) .z) (.n none .z (.n none (.n none (.r [[4]]) .z) (.n none .z (.n none (.n none (.r [[4]]) .z) (.n none .z (.n none (.n none (.r [[4]]) .z) (.n none .z (.n none (.n none (.r [[4]]) .z) (.n none .z (.n none (.n none (.r [[4]]) .z) (.n none .z (.n none .z (.n none .z (.n none .z (.n none .z (.n none (.n none (.r [[4]]) .z) (.n none .z (.n none (.n none (.r [[4]]) .z) (.n none .z (.n none (.n none (.r [[4]]) .z) .z)))))))))))))))))))))) .z)) .z)))
def S85 (c : CV) (a0 a1 : AV) (h : AH) : R :=
jX h 28 a1 fun v0 h1 =>
qJ v0 2 fun v2 =>
qX h1 v2 fun v3 =>
qq .add (iI 6) v3 fun v4 =>
qJ v0 3 fun v5 =>
qX h1 v5 fun v6 =>
qF a0 fun v7 =>
qJ v7 6 fun v8 =>
yU v8 v6 8 1 fun v9 =>
qX h1 v9 fun v10 =>
qJ v0 3 fun v11 =>
qX h1 v11 fun v12 =>
qq .add v12 (iI 1) fun v13 =>
qF a0 fun v14 =>
qJ v14 6 fun v15 =>
yU v15 v13 8 1 fun v16 =>
qX h1 v16 fun v17 =>
qJ v0 1 fun v18 =>
qX h1 v18 fun v19 =>
qq .eql v19 (iI 1) fun v20 =>
qz v20 (
qE (α := AV × Unit → AH → R) (fun s21 h22 =>
some (s21.1, h22)) fun j23 =>
qR h1 v0 5 fun v24 =>
qG c (.fn 113 [] []) [a0, v24] h1 fun v25 h26 =>
qF a0 fun v27 =>
qJ v27 1 fun v28 =>
qX h26 v28 fun v29 =>
qG c (.fn 114 [] []) [v29, v4, v10] h26 fun v30 h31 =>
qD v30 0 fun v32 =>
qD v30 1 fun v33 =>
qG c v25 [v32, v33] h31 fun v34 h35 =>
zx v28 none v29 h1 h26 h1.nx <|
j23 (v34, ()) h35) (
qq .eql v19 (iI 2) fun v36 =>
qz v36 (
qE (α := AV × Unit → AH → R) (fun s37 h38 =>
some (s37.1, h38)) fun j39 =>
qR h1 v0 5 fun v40 =>
qG c (.fn 113 [] []) [a0, v40] h1 fun v41 h42 =>
qF a0 fun v43 =>
qJ v43 1 fun v44 =>
qX h42 v44 fun v45 =>
qG c (.fn 115 [] []) [v45, v4, v10] h42 fun v46 h47 =>
qD v46 0 fun v48 =>
qD v46 1 fun v49 =>
qG c v41 [v48, v49] h47 fun v50 h51 =>
zx v44 none v45 h1 h42 h1.nx <|
j39 (v50, ()) h51) (
qq .eql v19 (iI 3) fun v52 =>
qz v52 (
qE (α := AV × Unit → AH → R) (fun s53 h54 =>
some (s53.1, h54)) fun j55 =>
qR h1 v0 5 fun v56 =>
qG c (.fn 113 [] []) [a0, v56] h1 fun v57 h58 =>
qF a0 fun v59 =>
qJ v59 1 fun v60 =>
qX h58 v60 fun v61 =>
qG c (.fn 116 [] []) [v61, v4, v10] h58 fun v62 h63 =>
qD v62 0 fun v64 =>
qD v62 1 fun v65 =>
qG c v57 [v64, v65] h63 fun v66 h67 =>
zx v60 none v61 h1 h58 h1.nx <|
j55 (v66, ()) h67) (
qq .eql v19 (iI 4) fun v68 =>
qz v68 (
qE (α := AV × Unit → AH → R) (fun s69 h70 =>
some (s69.1, h70)) fun j71 =>
qR h1 v0 5 fun v72 =>
qG c (.fn 113 [] []) [a0, v72] h1 fun v73 h74 =>
qF a0 fun v75 =>
qJ v75 1 fun v76 =>
qX h74 v76 fun v77 =>
qG c (.fn 117 [] []) [v77, v4, v10, v17] h74 fun v78 h79 =>
qD v78 0 fun v80 =>
qD v78 1 fun v81 =>
qG c v73 [v80, v81] h79 fun v82 h83 =>
zx v76 none v77 h1 h74 h1.nx <|
j71 (v82, ()) h83) (
qq .eql v19 (iI 5) fun v84 =>
qz v84 (
qE (α := AV × Unit → AH → R) (fun s85 h86 =>
some (s85.1, h86)) fun j87 =>
qR h1 v0 5 fun v88 =>
qG c (.fn 118 [] []) [a0, v88] h1 fun v89 h90 =>
qF a0 fun v91 =>
qJ v91 1 fun v92 =>
qX h90 v92 fun v93 =>
qG c (.fn 119 [] []) [v93, v4, v10] h90 fun v94 h95 =>
qD v94 0 fun v96 =>
qD v94 1 fun v97 =>
qD v94 2 fun v98 =>
qG c v89 [v96, v97, v98] h95 fun v99 h100 =>
zx v92 none v93 h1 h90 h1.nx <|
j87 (v99, ()) h100) (
qq .eql v19 (iI 6) fun v101 =>
qz v101 (
qE (α := AV × Unit → AH → R) (fun s102 h103 =>
some (s102.1, h103)) fun j104 =>
qR h1 v0 5 fun v105 =>
qG c (.fn 113 [] []) [a0, v105] h1 fun v106 h107 =>
qF a0 fun v108 =>
qJ v108 1 fun v109 =>
qX h107 v109 fun v110 =>
qG c (.fn 120 [] []) [v110, v4, v10] h107 fun v111 h112 =>
qD v111 0 fun v113 =>
qD v111 1 fun v114 =>
qG c v106 [v113, v114] h112 fun v115 h116 =>
zx v109 none v110 h1 h107 h1.nx <|
j104 (v115, ()) h116) (
qq .eql v19 (iI 7) fun v117 =>
qz v117 (
qG c (.fn 121 [] []) [a0, v4, v10] h1 fun v118 h119 =>
some (v118, h119)) (
qq .eql v19 (iI 8) fun v120 =>
qz v120 (
qR h1 v0 5 fun v121 =>
qG c (.fn 122 [] []) [a0, v121, v4] h1 fun v122 h123 =>
some (v122, h123)) (
qq .eql v19 (iI 9) fun v124 =>
qz v124 (
qE (α := AV × Unit → AH → R) (fun s125 h126 =>
some (s125.1, h126)) fun j127 =>
qR h1 v0 5 fun v128 =>
qG c (.fn 113 [] []) [a0, v128] h1 fun v129 h130 =>
qF a0 fun v131 =>
qJ v131 1 fun v132 =>
qX h130 v132 fun v133 =>
qG c (.fn 123 [] []) [v133, v4, v10, v17] h130 fun v134 h135 =>
qD v134 0 fun v136 =>
qD v134 1 fun v137 =>
qG c v129 [v136, v137] h135 fun v138 h139 =>
zx v132 none v133 h1 h130 h1.nx <|
j127 (v138, ()) h139) (
qq .eql v19 (iI 10) fun v140 =>
qz v140 (
qE (α := AV × Unit → AH → R) (fun s141 h142 =>
some (s141.1, h142)) fun j143 =>
qR h1 v0 5 fun v144 =>
qG c (.fn 118 [] []) [a0, v144] h1 fun v145 h146 =>
qF a0 fun v147 =>
qJ v147 1 fun v148 =>
qX h146 v148 fun v149 =>
qG c (.fn 124 [] []) [v149, v4, v10] h146 fun v150 h151 =>
qD v150 0 fun v152 =>
qD v150 1 fun v153 =>
qD v150 2 fun v154 =>
qG c v145 [v152, v153, v154] h151 fun v155 h156 =>
zx v148 none v149 h1 h146 h1.nx <|
j143 (v155, ()) h156) (
qq .eql v19 (iI 11) fun v157 =>
qz v157 (
qE (α := AV × Unit → AH → R) (fun s158 h159 =>
some (s158.1, h159)) fun j160 =>
qR h1 v0 5 fun v161 =>
qG c (.fn 113 [] []) [a0, v161] h1 fun v162 h163 =>
qF a0 fun v164 =>
qJ v164 1 fun v165 =>
qX h163 v165 fun v166 =>
qG c (.fn 125 [] []) [v166, v4, v10] h163 fun v167 h168 =>
qD v167 0 fun v169 =>
qD v167 1 fun v170 =>
qG c v162 [v169, v170] h168 fun v171 h172 =>
zx v165 none v166 h1 h163 h1.nx <|
j160 (v171, ()) h172) (
qF a0 fun v173 =>
qJ v173 1 fun v174 =>
qX h1 v174 fun v175 =>
qG c (.fn 126 [] []) [v175, v4, v10, v17] h1 fun v176 h177 =>
qD v176 0 fun v178 =>
qD v176 1 fun v179 =>
qR h177 v0 5 fun v180 =>
qG c (.fn 118 [] []) [a0, v180] h177 fun v181 h182 =>
q9 v178 fun v183 =>
jR .u64 v183 fun v184 =>
qG c v181 [v184, (.bool true), v179] h182 fun v185 h186 =>
some (v185, h186))))))))))))
def W85 : WF := w_2 S85
theorem W85_ok : WOk Tryz.prog 85 W85 := jC (pl := P85) fun _ _ _ _ => by kernel_rfl
def P86 : Pl := (.n none .z (.n none (.n none .z (.n none (.n none .z (.n none (.n none .z (.n none .z (.n none .z (.n (some [10]) .z .z)))) (.n none .z (.n none .z (.n none .z (.n none (.n none .z (.n none .z (.n (some [15]) .z .z))) .z)))))) .z)) .z))
def S86 (c : CV) (a0 a1 a2 a3 : AV) (h : AH) : R :=
jX h 28 a1 fun v0 h1 =>
qJ v0 0 fun v2 =>
qX h1 v2 fun v3 =>
qq .eql v3 (iI 8) fun v4 =>
qz v4 (
qJ v0 3 fun v5 =>
qX h1 v5 fun v6 =>
qG c (.fn 127 [] []) [a3, v6] h1 fun v7 h8 =>
qD v7 0 fun v9 =>
qD v7 1 fun v10 =>
qq .neq v10 (iI 0) fun v11 =>
qz v11 (
some (v10, h8)) (
qF a0 fun v12 =>
qJ v12 1 fun v13 =>
qX h8 v13 fun v14 =>
qG c (.fn 109 [] []) [v14, v9] h8 fun v15 h16 =>
qD v15 0 fun v17 =>
qD v15 1 fun v18 =>
qE (α := AV × Unit → AH → List Nat → R) (fun s19 h20 d21 =>
qT d21 h20 fun h23 =>
some (s19.1, h23)) fun j22 =>
qq .eql v18 (iI 0) fun v24 =>
qz v24 (
qF a2 fun v25 =>
qy h16 v25 v17 1 fun h26 =>
j22 (v18, ()) h26 []) (
j22 (v18, ()) h16 []))) (
qq .eql v3 (iI 9) fun v27 =>
qz v27 (
qF a2 fun v28 =>
qX h1 v28 fun v29 =>
qJ v0 3 fun v30 =>
qX h1 v30 fun v31 =>
qG c (.fn 127 [] []) [v29, v31] h1 fun v32 h33 =>
qD v32 0 fun v34 =>
qD v32 1 fun v35 =>
qq .neq v35 (iI 0) fun v36 =>
qz v36 (
some (v35, h33)) (
qF a0 fun v37 =>
qJ v37 1 fun v38 =>
qX h33 v38 fun v39 =>
qG c (.fn 128 [] []) [v39, v34, a3] h33 fun v40 h41 =>
some (v40, h41))) (
qq .eql v3 (iI 10) fun v42 =>
qz v42 (
qq .geq a3 (uU 2147483648) fun v43 =>
qz v43 (
some ((iI 3), h1)) (
qF a0 fun v44 =>
qJ v44 1 fun v45 =>
qX h1 v45 fun v46 =>
jR .i64 a3 fun v47 =>
qG c (.fn 129 [] []) [v46, v47] h1 fun v48 h49 =>
qD v48 0 fun v50 =>
qD v48 1 fun v51 =>
qE (α := AV × Unit → AH → List Nat → R) (fun s52 h53 d54 =>
qT d54 h53 fun h56 =>
some (s52.1, h56)) fun j55 =>
qq .eql v51 (iI 0) fun v57 =>
qz v57 (
jR .u64 v50 fun v58 =>
qF a2 fun v59 =>
qy h49 v59 v58 1 fun h60 =>
j55 (v51, ()) h60 []) (
j55 (v51, ()) h49 []))) (
qF a2 fun v61 =>
qX h1 v61 fun v62 =>
qq .geq v62 (uU 2147483648) fun v63 =>
qz v63 (
some ((iI 2), h1)) (
qF a0 fun v64 =>
qJ v64 1 fun v65 =>
qX h1 v65 fun v66 =>
qF a2 fun v67 =>
qX h1 v67 fun v68 =>
jR .i64 v68 fun v69 =>
qG c (.fn 130 [] []) [v66, v69] h1 fun v70 h71 =>
some (v70, h71)))))
def W86 : WF := w_4 S86
theorem W86_ok : WOk Tryz.prog 86 W86 := yl (pl := P86) fun _ _ _ _ _ _ => by kernel_rfl
def P87 : Pl := (.n none .z (.n none (.n none .z (.n none (.n (some [7, 6, 3, 0]) .z (.n none .z (.n (some [18, 6, 0]) .z .z))) .z)) .z))
def S87 (c : CV) (a0 a1 : AV) (h : AH) : R :=
jX h 28 a1 fun v0 h1 =>
qJ v0 0 fun v2 =>
qX h1 v2 fun v3 =>
qE (α := u4_0 → AH → List Nat → R) (fun s4 h5 d6 =>
qz s4.1 (
qJ s4.2.2.1 0 fun v8 =>
qX h5 v8 fun v9 =>
qF s4.2.2.2.1 fun v10 =>
qJ v10 15 fun v11 =>
qX h5 v11 fun v12 =>
qG c (.fn 131 [] []) [s4.2.2.2.1, v9, v12] h5 fun v13 h14 =>
qT d6 h14 fun h15 =>
some (v13, h15)) (
qE (α := u3_0 → AH → List Nat → R) (fun s16 h17 d18 =>
qz s16.1 (
qG c (.fn 132 [] []) [s16.2.2.1] h17 fun _ h21 =>
qF s16.2.2.1 fun v22 =>
qJ v22 1 fun v23 =>
qX h21 v23 fun v24 =>
qG c (.fn 133 [] []) [v24] h21 fun v25 h26 =>
qT d18 h26 fun h27 =>
some (v25, h27)) (
qq .eql s16.2.1 (iI 18) fun v28 =>
qz v28 (
qG c (.fn 132 [] []) [s16.2.2.1] h17 fun _ h30 =>
qF s16.2.2.1 fun v31 =>
qJ v31 2 fun v32 =>
qX h30 v32 fun v33 =>
qF s16.2.2.1 fun v34 =>
qJ v34 15 fun v35 =>
qX h30 v35 fun v36 =>
jz v33 v36 1 fun v37 =>
qX h30 v37 fun v38 =>
qq .add v38 (iI 1) fun v39 =>
qF s16.2.2.1 fun v40 =>
qJ v40 16 fun v41 =>
qy h30 v41 v39 1 fun h42 =>
qF s16.2.2.1 fun v43 =>
qJ v43 1 fun v44 =>
qX h42 v44 fun v45 =>
qG c (.fn 133 [] []) [v45] h42 fun v46 h47 =>
qT d18 h47 fun h48 =>
some (v46, h48)) (
qq .eql s16.2.1 (iI 16) fun v49 =>
qz v49 (
qG c (.fn 132 [] []) [s16.2.2.1] h17 fun v50 h51 =>
qG c (.fn 134 [] []) [s16.2.2.1, v50] h51 fun _ h53 =>
qF s16.2.2.1 fun v54 =>
qJ v54 2 fun v55 =>
qX h53 v55 fun v56 =>
qF s16.2.2.1 fun v57 =>
qJ v57 15 fun v58 =>
qX h53 v58 fun v59 =>
jz v56 v59 1 fun v60 =>
qX h53 v60 fun v61 =>
qq .add v61 (iI 1) fun v62 =>
qF s16.2.2.1 fun v63 =>
qJ v63 16 fun v64 =>
qy h53 v64 v62 1 fun h65 =>
qF s16.2.2.1 fun v66 =>
qJ v66 1 fun v67 =>
qX h65 v67 fun v68 =>
qG c (.fn 135 [] []) [v68] h65 fun v69 h70 =>
qT d18 h70 fun h71 =>
some (v69, h71)) (
qG c (.fn 136 [] []) [s16.2.2.1] h17 fun v72 h73 =>
qT d18 h73 fun h74 =>
some (v72, h74))))) fun j19 =>
qq .eql s4.2.1 (iI 15) fun v75 =>
qz v75 (
j19 (v75, s4.2.1, s4.2.2.2.1, ()) h5 d6) (
qq .eql s4.2.1 (iI 19) fun v76 =>
j19 (v76, s4.2.1, s4.2.2.2.1, ()) h5 d6))) fun j7 =>
qq .eql v3 (iI 14) fun v77 =>
qz v77 (
j7 (v77, v3, v0, a0, ()) h1 []) (
qq .eql v3 (iI 17) fun v78 =>
j7 (v78, v3, v0, a0, ()) h1 [])
def W87 : WF := w_2 S87
theorem W87_ok : WOk Tryz.prog 87 W87 := jC (pl := P87) fun _ _ _ _ => by kernel_rfl
def P88 : Pl := .z
def S88 (_ : CV) (a0 : AV) (h : AH) : R :=
pEq .slc false a0 .nils fun v0 =>
qz v0 (
some (.nils, h)) (
qp h 20 [.nili] 0 [] fun v1 h2 =>
q8 h2 20 1 v1 a0 fun v3 h4 =>
some (v3, h4))
def W88 : WF := w_1 S88
theorem W88_ok : WOk Tryz.prog 88 W88 := jk (pl := P88) fun _ _ _ => by kernel_rfl
def P89 : Pl := .z
def S89 (c : CV) (a0 a1 : AV) (h : AH) : R :=
qG c (.fn 137 [] []) [a0, a1] h fun v0 h1 =>
some (v0, h1)
def W89 : WF := w_2 S89
theorem W89_ok : WOk Tryz.prog 89 W89 := jC (pl := P89) fun _ _ _ _ => by kernel_rfl
def P99 : Pl := .z
def S99 (_ : CV) (a0 : AV) (h : AH) : R :=
jX h 138 a0 fun v0 h1 =>
some ((.fn 150 [] [v0]), h1)
def W99 : WF := w_1 S99
theorem W99_ok : WOk Tryz.prog 99 W99 := jk (pl := P99) fun _ _ _ => by kernel_rfl
def P100 : Pl := .z
def S100 (_ : CV) (a0 : AV) (h : AH) : R :=
pMM false [a0, (iI 96)] fun v0 =>
pMM true [(iI 0), v0] fun v1 =>
qm [(iI 0), .nils] [(0, 1, v1)] fun v2 =>
jX h 211 v2 fun v3 h4 =>
some (v3, h4)
def W100 : WF := w_1 S100
theorem W100_ok : WOk Tryz.prog 100 W100 := jk (pl := P100) fun _ _ _ => by kernel_rfl
def P101 : Pl := (.n none .z (.n none .z (.n none (.n none .z (.n none (.n (some [13, 12, 11, 5, 0]) .z .z) .z)) .z)))
def S101 (c : CV) (a0 a1 : AV) (h : AH) : R :=
qG c (.fn 102 [] []) [a0] h fun v0 h1 =>
q9 a1 fun v2 =>
zJ (σ := u5_0) NN (fun i6 s3 h4 d5 =>
qq .lss s3.1 s3.2.1 fun v7 =>
qz v7 (
jz s3.2.2.1 s3.1 2 fun v8 =>
qR h4 v8 2 fun v9 =>
jX h4 67 (.agg [(iI 0), (uU 0)]) fun v10 h11 =>
qy h11 v10 v9 2 fun h12 =>
qJ v10 0 fun v13 =>
qX h12 v13 fun v14 =>
qJ v10 1 fun v15 =>
qX h12 v15 fun v16 =>
qG c (.fn 151 [] []) [s3.2.2.2.2.1, v14, v16] h12 fun v17 h18 =>
qq .neq v17 (iI 0) fun v19 =>
qz v19 (
qF s3.2.2.2.2.1 fun v20 =>
qJ v20 1 fun v21 =>
qy h18 v21 s3.2.2.2.1 1 fun h22 =>
qT d5 h22 fun h23 =>
some (v17, h23)) (
qq .add s3.1 (iI 1) fun v24 =>
i6 (v24, s3.2.1, s3.2.2.1, s3.2.2.2.1, s3.2.2.2.2.1, ()) h18 d5)) (
qT d5 h4 fun h25 =>
some ((iI 0), h25))) ((iI 0), v2, a1, v0, a0, ()) h1 []
def W101 : WF := w_2 S101
theorem W101_ok : WOk Tryz.prog 101 W101 := jC (pl := P101) fun _ _ _ _ => by kernel_rfl
def P102 : Pl := .z
def S102 (c : CV) (a0 : AV) (h : AH) : R :=
qF a0 fun v0 =>
qJ v0 1 fun v1 =>
qX h v1 fun v2 =>
qG c (.fn 152 [] []) [v2] h fun v3 h4 =>
some (v3, h4)
def W102 : WF := w_1 S102
theorem W102_ok : WOk Tryz.prog 102 W102 := jk (pl := P102) fun _ _ _ => by kernel_rfl
def P103 : Pl := (.n none .z (.n none .z (.n none (.r [[21, 17, 5, 4, 1], [27, 23, 5, 1], [33, 29, 1], [39, 35, 1], [42, 39, 35], [43, 35]]) .z)))
def S103 (c : CV) (a0 : AV) (h : AH) : R :=
jX h 28 a0 fun v0 h1 =>
qJ v0 0 fun v2 =>
qX h1 v2 fun v3 =>
qG c (.fn 153 [] []) [v3] h1 fun v4 h5 =>
qD v4 0 fun v6 =>
qD v4 1 fun v7 =>
qD v4 2 fun v8 =>
jX h5 214 (.agg [(iI 0), (iI 0)]) fun v9 h10 =>
jX h10 214 (.agg [(iI 0), (iI 0)]) fun v11 h12 =>
jX h12 214 (.agg [(iI 0), (iI 0)]) fun v13 h14 =>
qy h14 v9 v6 2 fun h15 =>
qy h15 v11 v7 2 fun h16 =>
qy h16 v13 v8 2 fun h17 =>
qJ v0 0 fun v18 =>
qX h17 v18 fun v19 =>
qG c (.fn 154 [] []) [v19] h17 fun v20 h21 =>
YL .neq v20 (.str []) fun v22 =>
qE (α := u5_0 → AH → R) (fun s23 h24 =>
qn s23.2.1 s23.1 (.bool false) fun v26 =>
qE (α := u4_0 → AH → R) (fun s27 h28 =>
qn s27.2.1 s27.1 (.bool false) fun v30 =>
qE (α := u3_0 → AH → R) (fun s31 h32 =>
qn s31.2.1 s31.1 (.bool false) fun v34 =>
qE (α := u3_0 → AH → R) (fun s35 h36 =>
qE (α := u3_0 → AH → R) (fun s38 h39 =>
qE (α := u2_0 → AH → R) (fun s41 h42 =>
qn s41.2.1 s41.1 (.bool false) fun v44 =>
some (v44, h42)) fun j43 =>
qi s38.2.2.1 true (
qn s38.2.1 (.bool true) s38.1 fun v45 =>
j43 (v45, s38.2.2.1, ()) h39) (
j43 (.undef, s38.2.2.1, ()) h39)) fun j40 =>
qi s35.1 false (
qJ s35.2.2.1 0 fun v46 =>
qX h36 v46 fun v47 =>
qq .eql v47 (iI 1) fun v48 =>
j40 (v48, s35.1, s35.2.1, ()) h36) (
j40 (.undef, s35.1, s35.2.1, ()) h36)) fun j37 =>
qi v34 true (
qJ s31.2.2.1 4 fun v49 =>
qX h32 v49 fun v50 =>
qq .eql v50 (uU 0) fun v51 =>
j37 (v51, v34, s31.2.2.1, ()) h32) (
j37 (.undef, v34, s31.2.2.1, ()) h32)) fun j33 =>
qi v30 true (
qR h28 s27.2.2.1 2 fun v52 =>
qJ s27.2.2.2.1 3 fun v53 =>
qX h28 v53 fun v54 =>
qG c (.fn 155 [] []) [v52, v54] h28 fun v55 h56 =>
j33 (v55, v30, s27.2.2.2.1, ()) h56) (
j33 (.undef, v30, s27.2.2.2.1, ()) h28)) fun j29 =>
qi v26 true (
qR h24 s23.2.2.2.1 2 fun v57 =>
qJ s23.2.2.2.2.1 2 fun v58 =>
qX h24 v58 fun v59 =>
qG c (.fn 155 [] []) [v57, v59] h24 fun v60 h61 =>
j29 (v60, v26, s23.2.2.1, s23.2.2.2.2.1, ()) h61) (
j29 (.undef, v26, s23.2.2.1, s23.2.2.2.2.1, ()) h24)) fun j25 =>
qi v22 true (
qR h21 v9 2 fun v62 =>
qJ v0 1 fun v63 =>
qX h21 v63 fun v64 =>
qG c (.fn 155 [] []) [v62, v64] h21 fun v65 h66 =>
j25 (v65, v22, v13, v11, v0, ()) h66) (
j25 (.undef, v22, v13, v11, v0, ()) h21)
def W103 : WF := w_1 S103
theorem W103_ok : WOk Tryz.prog 103 W103 := jk (pl := P103) fun _ _ _ => by kernel_rfl
def P104 : Pl := (.n none .z (.n none .z (.n none (.r [[4]]) .z)))
def S104 (c : CV) (a0 a1 : AV) (h : AH) : R :=
jX h 31 a1 fun v0 h1 =>
q9 a0 fun v2 =>
qq .eql v2 (iI 0) fun v3 =>
qz v3 (
some ((iI 0), h1)) (
qE (α := AV × Unit → AH → R) (fun s4 h5 =>
some (s4.1, h5)) fun j6 =>
qJ v0 0 fun v7 =>
qX h1 v7 fun v8 =>
qG c (.fn 74 [] []) [a0] h1 fun v9 h10 =>
jz v8 v9 5 fun v11 =>
qJ v11 0 fun v12 =>
qX h10 v12 fun v13 =>
zx v7 none v8 h1 h10 h1.nx <|
j6 (v13, ()) h10)
def W104 : WF := w_2 S104
theorem W104_ok : WOk Tryz.prog 104 W104 := jC (pl := P104) fun _ _ _ _ => by kernel_rfl
def P105 : Pl := (.n none .z (.n none (.r [[7, 5]]) .z))
def S105 (_ : CV) (a0 : AV) (h : AH) : R :=
qq .eql a0 (iI 14) fun v0 =>
qE (α := u2_0 → AH → R) (fun s1 h2 =>
qn s1.2.1 (.bool true) s1.1 fun v4 =>
some (v4, h2)) fun j3 =>
qi v0 false (
qq .eql a0 (iI 17) fun v5 =>
j3 (v5, v0, ()) h) (
j3 (.undef, v0, ()) h)
def W105 : WF := w_1 S105
theorem W105_ok : WOk Tryz.prog 105 W105 := jk (pl := P105) fun _ _ _ => by kernel_rfl
def P106 : Pl := (.n none .z (.n none (.r [[7, 5]]) .z))
def S106 (_ : CV) (a0 : AV) (h : AH) : R :=
qq .eql a0 (iI 12) fun v0 =>
qE (α := u2_0 → AH → R) (fun s1 h2 =>
qn s1.2.1 (.bool true) s1.1 fun v4 =>
some (v4, h2)) fun j3 =>
qi v0 false (
qq .eql a0 (iI 13) fun v5 =>
j3 (v5, v0, ()) h) (
j3 (.undef, v0, ()) h)
def W106 : WF := w_1 S106
theorem W106_ok : WOk Tryz.prog 106 W106 := jk (pl := P106) fun _ _ _ => by kernel_rfl
def P107 : Pl := .z
def S107 (_ : CV) (a0 : AV) (h : AH) : R :=
qF a0 fun v0 =>
qJ v0 0 fun v1 =>
qX h v1 fun v2 =>
q9 v2 fun v3 =>
some (v3, h)
def W107 : WF := w_1 S107
theorem W107_ok : WOk Tryz.prog 107 W107 := jk (pl := P107) fun _ _ _ => by kernel_rfl
def P108 : Pl := (.n none .z (.n none (.n none (.r [[17, 13, 1, 0]]) .z) .z))
def S108 (c : CV) (a0 a1 : AV) (h : AH) : R :=
qq .leq a1 (iI 14) fun v0 =>
qE (α := u4_0 → AH → R) (fun s1 h2 =>
qn s1.2.1 (.bool true) s1.1 fun v4 =>
qz v4 (
some ((.tup [(iI 0), (.bool false), (iI 2)]), h2)) (
qq .sub s1.2.2.1 (iI 1) fun v5 =>
qG c (.fn 109 [] []) [s1.2.2.2.1, v5] h2 fun v6 h7 =>
qD v6 0 fun v8 =>
qD v6 1 fun v9 =>
qq .neq v9 (iI 0) fun v10 =>
qz v10 (
some ((.tup [(iI 0), (.bool false), v9]), h7)) (
qG c (.fn 156 [] []) [v8] h7 fun v11 h12 =>
qD v11 0 fun v13 =>
qD v11 1 fun v14 =>
qq .eql v13 (iI 0) fun v15 =>
qz v15 (
some ((.tup [(iI 0), (.bool false), (iI 2)]), h12)) (
some ((.tup [v13, v14, (iI 0)]), h12))))) fun j3 =>
qi v0 false (
qG c (.fn 107 [] []) [a0] h fun v16 h17 =>
qq .geq a1 v16 fun v18 =>
j3 (v18, v0, a1, a0, ()) h17) (
j3 (.undef, v0, a1, a0, ()) h)
def W108 : WF := w_2 S108
theorem W108_ok : WOk Tryz.prog 108 W108 := jC (pl := P108) fun _ _ _ _ => by kernel_rfl
def P109 : Pl := .z
def S109 (c : CV) (a0 a1 : AV) (h : AH) : R :=
qG c (.fn 52 [] []) [a0, a1] h fun v0 h1 =>
pUn .not v0 fun v2 =>
qz v2 (
some ((.tup [(uU 0), (iI 2)]), h1)) (
qF a0 fun v3 =>
qJ v3 2 fun v4 =>
qX h1 v4 fun v5 =>
qG c (.fn 157 [] []) [v5, a1] h1 fun v6 h7 =>
qD v6 0 fun v8 =>
qD v6 1 fun v9 =>
qz v9 (
some ((.tup [v8, (iI 0)]), h7)) (
qF a0 fun v10 =>
qJ v10 0 fun v11 =>
qX h7 v11 fun v12 =>
jz v12 a1 2 fun v13 =>
qR h7 v13 2 fun v14 =>
jX h7 105 (.agg [(uU 0), (.bool false)]) fun v15 h16 =>
qy h16 v15 v14 2 fun h17 =>
qJ v15 1 fun v18 =>
qX h17 v18 fun v19 =>
qz v19 (
qJ v15 0 fun v20 =>
qX h17 v20 fun v21 =>
some ((.tup [v21, (iI 0)]), h17)) (
qF a0 fun v22 =>
qJ v22 3 fun v23 =>
qy h17 v23 a1 1 fun h24 =>
some ((.tup [(uU 0), (iI 11)]), h24))))
def W109 : WF := w_2 S109
theorem W109_ok : WOk Tryz.prog 109 W109 := jC (pl := P109) fun _ _ _ _ => by kernel_rfl
def P110 : Pl := .z
def S110 (_ : CV) (a0 : AV) (h : AH) : R :=
qq .add (iI 0) a0 fun v0 =>
some (v0, h)
def W110 : WF := w_1 S110
theorem W110_ok : WOk Tryz.prog 110 W110 := jk (pl := P110) fun _ _ _ => by kernel_rfl
def P111 : Pl := (.n none .z (.n none (.n none .z (.n none (.n (some [9, 8, 7, 1, 0]) .z .z) .z)) .z))
def S111 (c : CV) (a0 a1 : AV) (h : AH) : R :=
q9 a1 fun v0 =>
zJ (σ := u5_0) NN (fun i4 s1 h2 d3 =>
qq .lss s1.1 s1.2.1 fun v5 =>
qz v5 (
jz s1.2.2.1 s1.1 2 fun v6 =>
qR h2 v6 2 fun v7 =>
jX h2 67 (.agg [(iI 0), (uU 0)]) fun v8 h9 =>
qy h9 v8 v7 2 fun h10 =>
qJ v8 0 fun v11 =>
qX h10 v11 fun v12 =>
qG c (.fn 52 [] []) [s1.2.2.2.2.1, v12] h10 fun v13 h14 =>
pUn .not v13 fun v15 =>
qz v15 (
qT d3 h14 fun h16 =>
some ((iI 2), h16)) (
qq .add s1.1 (iI 1) fun v17 =>
i4 (v17, s1.2.1, s1.2.2.1, s1.2.2.2.1, s1.2.2.2.2.1, ()) h14 d3)) (
qF s1.2.2.2.2.1 fun v18 =>
qJ v18 2 fun v19 =>
qX h2 v19 fun v20 =>
qG c (.fn 158 [] []) [v20, s1.2.2.2.1] h2 fun v21 h22 =>
qT d3 h22 fun h23 =>
some (v21, h23))) ((iI 0), v0, a1, a1, a0, ()) h []
def W111 : WF := w_2 S111
theorem W111_ok : WOk Tryz.prog 111 W111 := jC (pl := P111) fun _ _ _ _ => by kernel_rfl
def P112 : Pl := .z
def S112 (_ : CV) (a0 a1 : AV) (h : AH) : R :=
qF a0 fun v0 =>
qJ v0 0 fun v1 =>
qX h v1 fun v2 =>
q9 v2 fun v3 =>
qq .geq v3 (iI 16) fun v4 =>
qz v4 (
some ((.bool false), h)) (
qF a0 fun v5 =>
qJ v5 0 fun v6 =>
qX h v6 fun v7 =>
qp h 20 [.nili] 1 [(0, 1, a1)] fun v8 h9 =>
q8 h9 20 1 v7 v8 fun v10 h11 =>
qF a0 fun v12 =>
qJ v12 0 fun v13 =>
qy h11 v13 v10 1 fun h14 =>
some ((.bool true), h14))
def W112 : WF := w_2 S112
theorem W112_ok : WOk Tryz.prog 112 W112 := jC (pl := P112) fun _ _ _ _ => by kernel_rfl
def P113 : Pl := .z
def S113 (_ : CV) (a0 a1 : AV) (h : AH) : R :=
jX h 24 a0 fun v0 h1 =>
jX h1 28 a1 fun v2 h3 =>
some ((.fn 159 [] [v0, v2]), h3)
def W113 : WF := w_2 S113
theorem W113_ok : WOk Tryz.prog 113 W113 := jC (pl := P113) fun _ _ _ _ => by kernel_rfl
def P114 : Pl := (.n none .z (.n none .z (.n none .z (.n none (.r [[17, 15, 9]]) .z))))
def S114 (c : CV) (a0 a1 a2 : AV) (h : AH) : R :=
jX h 3 a1 fun v0 h1 =>
jX h1 26 a2 fun v2 h3 =>
jX h3 4 (.bool false) fun v4 h5 =>
qy h5 v4 (.bool false) 1 fun h6 =>
qX h6 v0 fun v7 =>
qG c (.fn 161 [] []) [a0, v7, (.fn 162 [] [v0, v2, v4])] h6 fun v8 h9 =>
qX h9 v4 fun v10 =>
qE (α := u3_0 → AH → R) (fun s11 h12 =>
qn s11.2.1 s11.1 (.bool false) fun v14 =>
some ((.tup [v14, s11.2.2.1]), h12)) fun j13 =>
qi v10 true (
qq .eql v8 (iI 0) fun v15 =>
j13 (v15, v10, v8, ()) h9) (
j13 (.undef, v10, v8, ()) h9)
def W114 : WF := w_3 S114
theorem W114_ok : WOk Tryz.prog 114 W114 := zZ (pl := P114) fun _ _ _ _ _ => by kernel_rfl
def P115 : Pl := (.n none .z (.n none .z (.n none .z (.n none (.r [[17, 15, 9]]) .z))))
def S115 (c : CV) (a0 a1 a2 : AV) (h : AH) : R :=
jX h 3 a1 fun v0 h1 =>
jX h1 26 a2 fun v2 h3 =>
jX h3 4 (.bool false) fun v4 h5 =>
qy h5 v4 (.bool false) 1 fun h6 =>
qX h6 v0 fun v7 =>
qG c (.fn 161 [] []) [a0, v7, (.fn 169 [] [v0, v2, v4])] h6 fun v8 h9 =>
qX h9 v4 fun v10 =>
qE (α := u3_0 → AH → R) (fun s11 h12 =>
qn s11.2.1 s11.1 (.bool false) fun v14 =>
some ((.tup [v14, s11.2.2.1]), h12)) fun j13 =>
qi v10 true (
qq .eql v8 (iI 0) fun v15 =>
j13 (v15, v10, v8, ()) h9) (
j13 (.undef, v10, v8, ()) h9)
def W115 : WF := w_3 S115
theorem W115_ok : WOk Tryz.prog 115 W115 := zZ (pl := P115) fun _ _ _ _ _ => by kernel_rfl
def P116 : Pl := (.n none .z (.n none .z (.n none .z (.n none (.r [[17, 15, 9]]) .z))))
def S116 (c : CV) (a0 a1 a2 : AV) (h : AH) : R :=
jX h 3 a1 fun v0 h1 =>
jX h1 26 a2 fun v2 h3 =>
jX h3 4 (.bool false) fun v4 h5 =>
qy h5 v4 (.bool false) 1 fun h6 =>
qX h6 v0 fun v7 =>
qG c (.fn 161 [] []) [a0, v7, (.fn 172 [] [v0, v2, v4])] h6 fun v8 h9 =>
qX h9 v4 fun v10 =>
qE (α := u3_0 → AH → R) (fun s11 h12 =>
qn s11.2.1 s11.1 (.bool false) fun v14 =>
some ((.tup [v14, s11.2.2.1]), h12)) fun j13 =>
qi v10 true (
qq .eql v8 (iI 0) fun v15 =>
j13 (v15, v10, v8, ()) h9) (
j13 (.undef, v10, v8, ()) h9)
def W116 : WF := w_3 S116
theorem W116_ok : WOk Tryz.prog 116 W116 := zZ (pl := P116) fun _ _ _ _ _ => by kernel_rfl
def P117 : Pl := (.n none .z (.n none .z (.n none .z (.n none (.r [[19, 17, 11]]) .z))))
def S117 (c : CV) (a0 a1 a2 a3 : AV) (h : AH) : R :=
jX h 3 a1 fun v0 h1 =>
jX h1 26 a2 fun v2 h3 =>
jX h3 26 a3 fun v4 h5 =>
jX h5 4 (.bool false) fun v6 h7 =>
qy h7 v6 (.bool false) 1 fun h8 =>
qX h8 v0 fun v9 =>
qG c (.fn 161 [] []) [a0, v9, (.fn 173 [] [v0, v2, v4, v6])] h8 fun v10 h11 =>
qX h11 v6 fun v12 =>
qE (α := u3_0 → AH → R) (fun s13 h14 =>
qn s13.2.1 s13.1 (.bool false) fun v16 =>
some ((.tup [v16, s13.2.2.1]), h14)) fun j15 =>
qi v12 true (
qq .eql v10 (iI 0) fun v17 =>
j15 (v17, v12, v10, ()) h11) (
j15 (.undef, v12, v10, ()) h11)
def W117 : WF := w_4 S117
theorem W117_ok : WOk Tryz.prog 117 W117 := yl (pl := P117) fun _ _ _ _ _ _ => by kernel_rfl
def P118 : Pl := .z
def S118 (_ : CV) (a0 a1 : AV) (h : AH) : R :=
jX h 24 a0 fun v0 h1 =>
jX h1 28 a1 fun v2 h3 =>
some ((.fn 178 [] [v0, v2]), h3)
def W118 : WF := w_2 S118
theorem W118_ok : WOk Tryz.prog 118 W118 := jC (pl := P118) fun _ _ _ _ => by kernel_rfl
def P119 : Pl := .z
def S119 (c : CV) (a0 a1 a2 : AV) (h : AH) : R :=
jX h 3 a1 fun v0 h1 =>
jX h1 26 a2 fun v2 h3 =>
jX h3 26 (uU 0) fun v4 h5 =>
jX h5 4 (.bool false) fun v6 h7 =>
qy h7 v4 (uU 0) 1 fun h8 =>
qy h8 v6 (.bool false) 1 fun h9 =>
qX h9 v0 fun v10 =>
qG c (.fn 161 [] []) [a0, v10, (.fn 180 [] [v0, v2, v4, v6])] h9 fun v11 h12 =>
qq .neq v11 (iI 0) fun v13 =>
qz v13 (
some ((.tup [(uU 0), (.bool false), v11]), h12)) (
qX h12 v4 fun v14 =>
qX h12 v6 fun v15 =>
some ((.tup [v14, v15, (iI 0)]), h12))
def W119 : WF := w_3 S119
theorem W119_ok : WOk Tryz.prog 119 W119 := zZ (pl := P119) fun _ _ _ _ _ => by kernel_rfl
def P120 : Pl := (.n none .z (.n none .z (.n none .z (.n none (.r [[17, 15, 9]]) .z))))
def S120 (c : CV) (a0 a1 a2 : AV) (h : AH) : R :=
jX h 3 a1 fun v0 h1 =>
jX h1 26 a2 fun v2 h3 =>
jX h3 4 (.bool false) fun v4 h5 =>
qy h5 v4 (.bool false) 1 fun h6 =>
qX h6 v0 fun v7 =>
qG c (.fn 161 [] []) [a0, v7, (.fn 181 [] [v0, v2, v4])] h6 fun v8 h9 =>
qX h9 v4 fun v10 =>
qE (α := u3_0 → AH → R) (fun s11 h12 =>
qn s11.2.1 s11.1 (.bool false) fun v14 =>
some ((.tup [v14, s11.2.2.1]), h12)) fun j13 =>
qi v10 true (
qq .eql v8 (iI 0) fun v15 =>
j13 (v15, v10, v8, ()) h9) (
j13 (.undef, v10, v8, ()) h9)
def W120 : WF := w_3 S120
theorem W120_ok : WOk Tryz.prog 120 W120 := zZ (pl := P120) fun _ _ _ _ _ => by kernel_rfl
def P121 : Pl := .z
def S121 (c : CV) (a0 a1 a2 : AV) (h : AH) : R :=
qF a0 fun v0 =>
qJ v0 1 fun v1 =>
qX h v1 fun v2 =>
qG c (.fn 182 [] []) [v2, a1, a2] h fun v3 h4 =>
qq .neq v3 (iI 0) fun v5 =>
qz v5 (
some (v3, h4)) (
qF a0 fun v6 =>
qJ v6 14 fun v7 =>
qX h4 v7 fun v8 =>
qG c (.fn 179 [] []) [v8] h4 fun v9 h10 =>
pUn .not v9 fun v11 =>
qz v11 (
some ((iI 5), h10)) (
some ((iI 0), h10)))
def W121 : WF := w_3 S121
theorem W121_ok : WOk Tryz.prog 121 W121 := zZ (pl := P121) fun _ _ _ _ _ => by kernel_rfl
def P122 : Pl := (.n none .z (.n none .z (.n none (.n none (.r [[24, 22, 9, 8, 7, 4, 0]]) .z) .z)))
def S122 (c : CV) (a0 a1 a2 : AV) (h : AH) : R :=
jX h 28 a1 fun v0 h1 =>
qF a0 fun v2 =>
qJ v2 1 fun v3 =>
qX h1 v3 fun v4 =>
qG c (.fn 183 [] []) [v4, a2] h1 fun v5 h6 =>
qD v5 0 fun v7 =>
qD v5 1 fun v8 =>
qD v5 2 fun v9 =>
qq .eql v9 (iI 0) fun v10 =>
qE (α := u7_0 → AH → R) (fun s11 h12 =>
qn s11.2.1 s11.1 (.bool false) fun v14 =>
qz v14 (
qG c (.fn 136 [] []) [s11.2.2.2.2.2.2.1] h12 fun v15 h16 =>
some (v15, h16)) (
qR h12 s11.2.2.2.2.2.1 5 fun v17 =>
qG c (.fn 118 [] []) [s11.2.2.2.2.2.2.1, v17] h12 fun v18 h19 =>
qG c v18 [s11.2.2.2.2.1, s11.2.2.2.1, s11.2.2.1] h19 fun v20 h21 =>
some (v20, h21))) fun j13 =>
qi v10 true (
pUn .not v8 fun v22 =>
j13 (v22, v10, v9, v8, v7, v0, a0, ()) h6) (
j13 (.undef, v10, v9, v8, v7, v0, a0, ()) h6)
def W122 : WF := w_3 S122
theorem W122_ok : WOk Tryz.prog 122 W122 := zZ (pl := P122) fun _ _ _ _ _ => by kernel_rfl
def P123 : Pl := (.n none .z (.n none .z (.n none .z (.n none (.r [[19, 17, 11]]) .z))))
def S123 (c : CV) (a0 a1 a2 a3 : AV) (h : AH) : R :=
jX h 3 a1 fun v0 h1 =>
jX h1 26 a2 fun v2 h3 =>
jX h3 26 a3 fun v4 h5 =>
jX h5 4 (.bool false) fun v6 h7 =>
qy h7 v6 (.bool false) 1 fun h8 =>
qX h8 v0 fun v9 =>
qG c (.fn 161 [] []) [a0, v9, (.fn 184 [] [v0, v2, v4, v6])] h8 fun v10 h11 =>
qX h11 v6 fun v12 =>
qE (α := u3_0 → AH → R) (fun s13 h14 =>
qn s13.2.1 s13.1 (.bool false) fun v16 =>
some ((.tup [v16, s13.2.2.1]), h14)) fun j15 =>
qi v12 true (
qq .eql v10 (iI 0) fun v17 =>
j15 (v17, v12, v10, ()) h11) (
j15 (.undef, v12, v10, ()) h11)
def W123 : WF := w_4 S123
theorem W123_ok : WOk Tryz.prog 123 W123 := yl (pl := P123) fun _ _ _ _ _ _ => by kernel_rfl
def P124 : Pl := .z
def S124 (c : CV) (a0 a1 a2 : AV) (h : AH) : R :=
jX h 3 a1 fun v0 h1 =>
jX h1 26 a2 fun v2 h3 =>
jX h3 26 (uU 0) fun v4 h5 =>
jX h5 4 (.bool false) fun v6 h7 =>
qy h7 v4 (uU 0) 1 fun h8 =>
qy h8 v6 (.bool false) 1 fun h9 =>
qX h9 v0 fun v10 =>
qG c (.fn 161 [] []) [a0, v10, (.fn 188 [] [v0, v2, v4, v6])] h9 fun v11 h12 =>
qq .neq v11 (iI 0) fun v13 =>
qz v13 (
some ((.tup [(uU 0), (.bool false), v11]), h12)) (
qX h12 v4 fun v14 =>
qX h12 v6 fun v15 =>
some ((.tup [v14, v15, (iI 0)]), h12))
def W124 : WF := w_3 S124
theorem W124_ok : WOk Tryz.prog 124 W124 := zZ (pl := P124) fun _ _ _ _ _ => by kernel_rfl
def P125 : Pl := (.n none .z (.n none .z (.n none .z (.n none (.r [[17, 15, 9]]) .z))))
def S125 (c : CV) (a0 a1 a2 : AV) (h : AH) : R :=
jX h 3 a1 fun v0 h1 =>
jX h1 26 a2 fun v2 h3 =>
jX h3 4 (.bool false) fun v4 h5 =>
qy h5 v4 (.bool false) 1 fun h6 =>
qX h6 v0 fun v7 =>
qG c (.fn 161 [] []) [a0, v7, (.fn 189 [] [v0, v2, v4])] h6 fun v8 h9 =>
qX h9 v4 fun v10 =>
qE (α := u3_0 → AH → R) (fun s11 h12 =>
qn s11.2.1 s11.1 (.bool false) fun v14 =>
some ((.tup [v14, s11.2.2.1]), h12)) fun j13 =>
qi v10 true (
qq .eql v8 (iI 0) fun v15 =>
j13 (v15, v10, v8, ()) h9) (
j13 (.undef, v10, v8, ()) h9)
def W125 : WF := w_3 S125
theorem W125_ok : WOk Tryz.prog 125 W125 := zZ (pl := P125) fun _ _ _ _ _ => by kernel_rfl
def P126 : Pl := .z
def S126 (c : CV) (a0 a1 a2 a3 : AV) (h : AH) : R :=
jX h 3 a1 fun v0 h1 =>
jX h1 26 a2 fun v2 h3 =>
jX h3 26 a3 fun v4 h5 =>
jX h5 188 .nils fun v6 h7 =>
qX h7 v0 fun v8 =>
qG c (.fn 161 [] []) [a0, v8, (.fn 191 [] [v0, v2, v4, v6])] h7 fun v9 h10 =>
qq .neq v9 (iI 0) fun v11 =>
qz v11 (
some ((.tup [.nils, v9]), h10)) (
qX h10 v6 fun v12 =>
some ((.tup [v12, (iI 0)]), h10))
def W126 : WF := w_4 S126
theorem W126_ok : WOk Tryz.prog 126 W126 := yl (pl := P126) fun _ _ _ _ _ _ => by kernel_rfl
def P127 : Pl := (.n none .z (.n none (.n none (.r [[13, 8, 1, 0], [20, 15, 1, 0]]) .z) .z))
def S127 (_ : CV) (a0 a1 : AV) (h : AH) : R :=
qq .geq a0 (uU 2147483648) fun v0 =>
qE (α := u4_0 → AH → R) (fun s1 h2 =>
qn s1.2.1 (.bool true) s1.1 fun v4 =>
qE (α := u4_0 → AH → R) (fun s5 h6 =>
qn s5.2.1 (.bool true) s5.1 fun v8 =>
qz v8 (
some ((.tup [(iI 0), (iI 2)]), h6)) (
jR .i64 s5.2.2.2.1 fun v9 =>
qq .add v9 s5.2.2.1 fun v10 =>
some ((.tup [v10, (iI 0)]), h6))) fun j7 =>
qi v4 false (
jR .i64 s1.2.2.2.1 fun v11 =>
qq .add v11 s1.2.2.1 fun v12 =>
qq .lss v12 (iI 6) fun v13 =>
j7 (v13, v4, s1.2.2.1, s1.2.2.2.1, ()) h2) (
j7 (.undef, v4, s1.2.2.1, s1.2.2.2.1, ()) h2)) fun j3 =>
qi v0 false (
jR .i64 a0 fun v14 =>
qq .add v14 a1 fun v15 =>
qq .geq v15 (iI 2147483648) fun v16 =>
j3 (v16, v0, a1, a0, ()) h) (
j3 (.undef, v0, a1, a0, ()) h)
def W127 : WF := w_2 S127
theorem W127_ok : WOk Tryz.prog 127 W127 := jC (pl := P127) fun _ _ _ _ => by kernel_rfl
def P128 : Pl := .z
def S128 (c : CV) (a0 a1 a2 : AV) (h : AH) : R :=
qG c (.fn 52 [] []) [a0, a1] h fun v0 h1 =>
pUn .not v0 fun v2 =>
qz v2 (
some ((iI 2), h1)) (
qF a0 fun v3 =>
qJ v3 2 fun v4 =>
qX h1 v4 fun v5 =>
qG c (.fn 194 [] []) [v5, a1, a2] h1 fun v6 h7 =>
some (v6, h7))
def W128 : WF := w_3 S128
theorem W128_ok : WOk Tryz.prog 128 W128 := zZ (pl := P128) fun _ _ _ _ _ => by kernel_rfl
def P129 : Pl := .z
def S129 (c : CV) (a0 a1 : AV) (h : AH) : R :=
qG c (.fn 195 [] []) [a1] h fun v0 h1 =>
qq .eql v0 (iI 0) fun v2 =>
qz v2 (
some ((.tup [(iI 0), (iI 3)]), h1)) (
qG c (.fn 110 [] []) [v0] h1 fun v3 h4 =>
qG c (.fn 109 [] []) [a0, v3] h4 fun v5 h6 =>
qD v5 0 fun v7 =>
qD v5 1 fun v8 =>
qq .neq v8 (iI 0) fun v9 =>
qz v9 (
some ((.tup [(iI 0), v8]), h6)) (
qq .neq v7 (uU 0) fun v10 =>
qz v10 (
qG c (.fn 196 [] []) [a0, v0, v7] h6 fun v11 h12 =>
qD v11 0 fun v13 =>
qD v11 1 fun v14 =>
some ((.tup [v13, v14]), h12)) (
qG c (.fn 197 [] []) [a0, v0] h6 fun v15 h16 =>
qD v15 0 fun v17 =>
qD v15 1 fun v18 =>
some ((.tup [v17, v18]), h16))))
def W129 : WF := w_2 S129
theorem W129_ok : WOk Tryz.prog 129 W129 := jC (pl := P129) fun _ _ _ _ => by kernel_rfl
def P130 : Pl := (.n none .z (.n none .z (.n (some [7, 5, 1, 0]) (.n none (.r [[19, 17, 7, 5, 1, 0]]) .z) (.n (some [7, 1, 0]) .z (.n (some [7]) .z .z)))))
def S130 (c : CV) (a0 a1 : AV) (h : AH) : R :=
qG c (.fn 108 [] []) [a0, a1] h fun v0 h1 =>
qD v0 0 fun v2 =>
qD v0 1 fun v3 =>
qD v0 2 fun v4 =>
qE (α := u4_0 → AH → List Nat → R) (fun s5 h6 d7 =>
qE (α := u3_0 → AH → List Nat → R) (fun s9 h10 d11 =>
qE (α := AV × Unit → AH → List Nat → R) (fun s13 h14 d15 =>
qT d15 h14 fun h17 =>
some (s13.1, h17)) fun j16 =>
qq .eql s9.1 (iI 0) fun v18 =>
qz v18 (
qG c (.fn 198 [] []) [s9.2.2.1, s9.2.1] h10 fun _ h20 =>
j16 (s9.1, ()) h20 d11) (
j16 (s9.1, ()) h10 d11)) fun j12 =>
qq .eql s5.1 (iI 0) fun v21 =>
qz v21 (
qq .sub s5.2.2.1 (iI 1) fun v22 =>
jR .u64 s5.2.1 fun v23 =>
qm [(iI 0), (uU 0)] [(0, 1, v22), (1, 1, v23)] fun v24 =>
qp h6 67 [(iI 0), (uU 0)] 1 [(0, 2, v24)] fun v25 h26 =>
qG c (.fn 111 [] []) [s5.2.2.2.1, v25] h26 fun v27 h28 =>
j12 (v27, s5.2.2.1, s5.2.2.2.1, ()) h28 d7) (
j12 (s5.1, s5.2.2.1, s5.2.2.2.1, ()) h6 d7)) fun j8 =>
qq .eql v4 (iI 0) fun v29 =>
qE (α := u6_0 → AH → R) (fun s30 h31 =>
qn s30.2.1 s30.1 (.bool false) fun v33 =>
qz v33 (
j8 ((iI 2), s30.2.2.2.1, s30.2.2.2.2.1, s30.2.2.2.2.2.1, ()) h31 []) (
j8 (s30.2.2.1, s30.2.2.2.1, s30.2.2.2.2.1, s30.2.2.2.2.2.1, ()) h31 [])) fun j32 =>
qi v29 true (
pUn .not v3 fun v34 =>
j32 (v34, v29, v4, v2, a1, a0, ()) h1) (
j32 (.undef, v29, v4, v2, a1, a0, ()) h1)
def W130 : WF := w_2 S130
theorem W130_ok : WOk Tryz.prog 130 W130 := jC (pl := P130) fun _ _ _ _ => by kernel_rfl
def P131 : Pl := (.n none .z (.n none .z (.n none (.r [[]]) .z)))
def S131 (c : CV) (a0 a1 a2 : AV) (h : AH) : R :=
qF a0 fun v0 =>
qJ v0 1 fun v1 =>
qX h v1 fun v2 =>
qG c (.fn 199 [] []) [v2] h fun v3 h4 =>
qq .neq v3 (iI 0) fun v5 =>
qz v5 (
some (v3, h4)) (
qE (α := Unit → AH → R) (fun _ h7 =>
some ((iI 0), h7)) fun j8 =>
qF a0 fun v9 =>
qJ v9 18 fun v10 =>
qX h4 v10 fun v11 =>
qF a0 fun v12 =>
qJ v12 6 fun v13 =>
qR h4 v13 8 fun v14 =>
qF a0 fun v15 =>
qJ v15 14 fun v16 =>
qX h4 v16 fun v17 =>
qG c (.fn 200 [] []) [v17] h4 fun v18 h19 =>
qm [(iI 0), (iI 0), (uU 0), (uU 0), (uU 0), (uU 0), (uU 0), (uU 0), (uU 0), (uU 0), (iI 0)] [(0, 1, a1), (1, 1, a2), (2, 8, v14), (10, 1, v18)] fun v20 =>
qp h19 195 [(iI 0), (iI 0), (uU 0), (uU 0), (uU 0), (uU 0), (uU 0), (uU 0), (uU 0), (uU 0), (iI 0)] 1 [(0, 11, v20)] fun v21 h22 =>
q8 h22 195 11 v11 v21 fun v23 h24 =>
qF a0 fun v25 =>
qJ v25 18 fun v26 =>
qy h24 v26 v23 1 fun h27 =>
zx v13 (some 8) v14 h4 h19 h4.nx <|
zx v10 none v11 h4 h19 h4.nx <|
j8 (()) h27)
def W131 : WF := w_3 S131
theorem W131_ok : WOk Tryz.prog 131 W131 := zZ (pl := P131) fun _ _ _ _ _ => by kernel_rfl
def P132 : Pl := .z
def S132 (_ : CV) (a0 : AV) (h : AH) : R :=
jX h 195 (.agg [(iI 0), (iI 0), (uU 0), (uU 0), (uU 0), (uU 0), (uU 0), (uU 0), (uU 0), (uU 0), (iI 0)]) fun v0 h1 =>
qF a0 fun v2 =>
qJ v2 18 fun v3 =>
qX h1 v3 fun v4 =>
qF a0 fun v5 =>
qJ v5 18 fun v6 =>
qX h1 v6 fun v7 =>
q9 v7 fun v8 =>
qq .sub v8 (iI 1) fun v9 =>
jz v4 v9 11 fun v10 =>
qR h1 v10 11 fun v11 =>
jX h1 195 (.agg [(iI 0), (iI 0), (uU 0), (uU 0), (uU 0), (uU 0), (uU 0), (uU 0), (uU 0), (uU 0), (iI 0)]) fun v12 h13 =>
qy h13 v12 v11 11 fun h14 =>
qF a0 fun v15 =>
qJ v15 18 fun v16 =>
qX h14 v16 fun v17 =>
qF a0 fun v18 =>
qJ v18 18 fun v19 =>
qX h14 v19 fun v20 =>
q9 v20 fun v21 =>
qq .sub v21 (iI 1) fun v22 =>
zi h14 195 11 v17 none (some v22) fun v23 =>
qF a0 fun v24 =>
qJ v24 18 fun v25 =>
qy h14 v25 v23 1 fun h26 =>
qR h26 v12 11 fun v27 =>
qy h26 v0 v27 11 fun h28 =>
qR h28 v0 11 fun v29 =>
some (v29, h28)
def W132 : WF := w_1 S132
theorem W132_ok : WOk Tryz.prog 132 W132 := jk (pl := P132) fun _ _ _ => by kernel_rfl
def P133 : Pl := .z
def S133 (c : CV) (a0 : AV) (h : AH) : R :=
qF a0 fun v0 =>
qJ v0 2 fun v1 =>
qX h v1 fun v2 =>
qG c (.fn 201 [] []) [v2] h fun v3 h4 =>
some (v3, h4)
def W133 : WF := w_1 S133
theorem W133_ok : WOk Tryz.prog 133 W133 := jk (pl := P133) fun _ _ _ => by kernel_rfl
def P134 : Pl := .z
def S134 (c : CV) (a0 a1 : AV) (h : AH) : R :=
jX h 195 a1 fun v0 h1 =>
qJ v0 2 fun v2 =>
qR h1 v2 8 fun v3 =>
qF a0 fun v4 =>
qJ v4 6 fun v5 =>
qy h1 v5 v3 8 fun h6 =>
qF a0 fun v7 =>
qJ v7 14 fun v8 =>
qX h6 v8 fun v9 =>
qJ v0 10 fun v10 =>
qX h6 v10 fun v11 =>
qG c (.fn 202 [] []) [v9, v11] h6 fun _ h13 =>
some ((.tup []), h13)
def W134 : WF := w_2 S134
theorem W134_ok : WOk Tryz.prog 134 W134 := jC (pl := P134) fun _ _ _ _ => by kernel_rfl
def P135 : Pl := .z
def S135 (c : CV) (a0 : AV) (h : AH) : R :=
qF a0 fun v0 =>
qJ v0 2 fun v1 =>
qX h v1 fun v2 =>
qG c (.fn 203 [] []) [v2] h fun v3 h4 =>
some (v3, h4)
def W135 : WF := w_1 S135
theorem W135_ok : WOk Tryz.prog 135 W135 := jk (pl := P135) fun _ _ _ => by kernel_rfl
def P136 : Pl := (.n none .z (.n none (.n none (.n (some [0]) .z .z) .z) .z))
def S136 (c : CV) (a0 : AV) (h : AH) : R :=
zJ (σ := AV × Unit) NN (fun i3 s0 h1 d2 =>
qF s0.1 fun v4 =>
qJ v4 18 fun v5 =>
qX h1 v5 fun v6 =>
q9 v6 fun v7 =>
qq .gtr v7 (iI 0) fun v8 =>
qz v8 (
qG c (.fn 132 [] []) [s0.1] h1 fun v9 h10 =>
jX h10 195 (.agg [(iI 0), (iI 0), (uU 0), (uU 0), (uU 0), (uU 0), (uU 0), (uU 0), (uU 0), (uU 0), (iI 0)]) fun v11 h12 =>
qy h12 v11 v9 11 fun h13 =>
qF s0.1 fun v14 =>
qJ v14 1 fun v15 =>
qX h13 v15 fun v16 =>
qG c (.fn 135 [] []) [v16] h13 fun v17 h18 =>
qq .neq v17 (iI 0) fun v19 =>
qz v19 (
qT d2 h18 fun h20 =>
some (v17, h20)) (
qJ v11 0 fun v21 =>
qX h18 v21 fun v22 =>
qq .eql v22 (iI 17) fun v23 =>
qz v23 (
qR h18 v11 11 fun v24 =>
qG c (.fn 134 [] []) [s0.1, v24] h18 fun _ h26 =>
qF s0.1 fun v27 =>
qJ v27 2 fun v28 =>
qX h26 v28 fun v29 =>
qJ v11 1 fun v30 =>
qX h26 v30 fun v31 =>
jz v29 v31 1 fun v32 =>
qX h26 v32 fun v33 =>
qq .add v33 (iI 1) fun v34 =>
qF s0.1 fun v35 =>
qJ v35 16 fun v36 =>
qy h26 v36 v34 1 fun h37 =>
qG c (.fn 131 [] []) [s0.1, (iI 18), v33] h37 fun v38 h39 =>
qT d2 h39 fun h40 =>
some (v38, h40)) (
i3 (s0.1, ()) h18 d2))) (
qF s0.1 fun v41 =>
qJ v41 15 fun v42 =>
qX h1 v42 fun v43 =>
qF s0.1 fun v44 =>
qJ v44 16 fun v45 =>
qy h1 v45 v43 1 fun h46 =>
qF s0.1 fun v47 =>
qJ v47 5 fun v48 =>
qy h46 v48 (iI 3) 1 fun h49 =>
qT d2 h49 fun h50 =>
some ((iI 0), h50))) (a0, ()) h []
def W136 : WF := w_1 S136
theorem W136_ok : WOk Tryz.prog 136 W136 := jk (pl := P136) fun _ _ _ => by kernel_rfl
def P137 : Pl := .z
def S137 (c : CV) (a0 a1 : AV) (h : AH) : R :=
qq .eql a1 (iI 10) fun v0 =>
qz v0 (
qq .lss a0 (uU 100) fun v1 =>
qz v1 (
jR .i64 a0 fun v2 =>
qG c (.fn 204 [] []) [v2] h fun v3 h4 =>
some (v3, h4)) (
jX h 246 (.agg [(.int .u8 (.ofNat 0)), (.int .u8 (.ofNat 0)), (.int .u8 (.ofNat 0)), (.int .u8 (.ofNat 0)), (.int .u8 (.ofNat 0)), (.int .u8 (.ofNat 0)), (.int .u8 (.ofNat 0)), (.int .u8 (.ofNat 0)), (.int .u8 (.ofNat 0)), (.int .u8 (.ofNat 0)), (.int .u8 (.ofNat 0)), (.int .u8 (.ofNat 0)), (.int .u8 (.ofNat 0)), (.int .u8 (.ofNat 0)), (.int .u8 (.ofNat 0)), (.int .u8 (.ofNat 0)), (.int .u8 (.ofNat 0)), (.int .u8 (.ofNat 0)), (.int .u8 (.ofNat 0)), (.int .u8 (.ofNat 0)), (.int .u8 (.ofNat 0)), (.int .u8 (.ofNat 0)), (.int .u8 (.ofNat 0)), (.int .u8 (.ofNat 0))]) fun v5 h6 =>
qG c (.fn 205 [] []) [a0] h6 fun v7 h8 =>
yy 24 1 v5 none (some v7) fun v9 =>
qG c (.fn 206 [] []) [v9, a0] h8 fun _ h11 =>
yy 24 1 v5 none (some v7) fun v12 =>
Gw h11 v12 fun v13 =>
some (v13, h11))) (
qG c (.fn 207 [] []) [.nils, a0, a1, (.bool false), (.bool false)] h fun v14 h15 =>
qD v14 0 fun _ =>
qD v14 1 fun v17 =>
some (v17, h15))
def W137 : WF := w_2 S137
theorem W137_ok : WOk Tryz.prog 137 W137 := jC (pl := P137) fun _ _ _ _ => by kernel_rfl
def P150 : Pl := (.n none .z (.n none (.n (some [3, 1, 0]) .z .z) .z))
def S150 (c : CV) (a0 a1 : AV) (h : AH) : R :=
qX h a1 fun v0 =>
q9 v0 fun v1 =>
qq .sub v1 (iI 1) fun v2 =>
zJ (σ := u3_0) NN (fun i6 s3 h4 d5 =>
qq .geq s3.1 (iI 0) fun v7 =>
qz v7 (
qX h4 s3.2.1 fun v8 =>
jz v8 s3.1 1 fun v9 =>
qX h4 v9 fun v10 =>
qG c s3.2.2.1 [s3.1, v10] h4 fun v11 h12 =>
pUn .not v11 fun v13 =>
qz v13 (
qT d5 h12 fun h14 =>
some ((.tup []), h14)) (
qq .sub s3.1 (iI 1) fun v15 =>
i6 (v15, s3.2.1, s3.2.2.1, ()) h12 d5)) (
qT d5 h4 fun h16 =>
some ((.tup []), h16))) (v2, a1, a0, ()) h []
def W150 : WF := w_2 S150
theorem W150_ok : WOk Tryz.prog 150 W150 := jC (pl := P150) fun _ _ _ _ => by kernel_rfl
def P151 : Pl := (.n none .z (.n none (.n none (.r [[12, 10, 2, 1, 0]]) .z) .z))
def S151 (c : CV) (a0 a1 a2 : AV) (h : AH) : R :=
qq .lss a1 (iI 1) fun v0 =>
qE (α := u5_0 → AH → R) (fun s1 h2 =>
qn s1.2.1 (.bool true) s1.1 fun v4 =>
qz v4 (
some ((iI 2), h2)) (
qG c (.fn 218 [] []) [s1.2.2.2.2.1, s1.2.2.2.1] h2 fun v5 h6 =>
qq .geq v5 (iI 0) fun v7 =>
qz v7 (
qF s1.2.2.2.2.1 fun v8 =>
qJ v8 1 fun v9 =>
qX h6 v9 fun v10 =>
jz v10 v5 2 fun v11 =>
qJ v11 1 fun v12 =>
qy h6 v12 s1.2.2.1 1 fun h13 =>
some ((iI 0), h13)) (
qF s1.2.2.2.2.1 fun v14 =>
qJ v14 1 fun v15 =>
qX h6 v15 fun v16 =>
q9 v16 fun v17 =>
qF s1.2.2.2.2.1 fun v18 =>
qJ v18 0 fun v19 =>
qX h6 v19 fun v20 =>
qq .geq v17 v20 fun v21 =>
qz v21 (
some ((iI 5), h6)) (
qF s1.2.2.2.2.1 fun v22 =>
qJ v22 1 fun v23 =>
qX h6 v23 fun v24 =>
qm [(iI 0), (uU 0)] [(0, 1, s1.2.2.2.1), (1, 1, s1.2.2.1)] fun v25 =>
qp h6 67 [(iI 0), (uU 0)] 1 [(0, 2, v25)] fun v26 h27 =>
q8 h27 67 2 v24 v26 fun v28 h29 =>
qF s1.2.2.2.2.1 fun v30 =>
qJ v30 1 fun v31 =>
qy h29 v31 v28 1 fun h32 =>
some ((iI 0), h32))))) fun j3 =>
qi v0 false (
qq .geq a1 (iI 256) fun v33 =>
j3 (v33, v0, a2, a1, a0, ()) h) (
j3 (.undef, v0, a2, a1, a0, ()) h)
def W151 : WF := w_3 S151
theorem W151_ok : WOk Tryz.prog 151 W151 := zZ (pl := P151) fun _ _ _ _ _ => by kernel_rfl
def P152 : Pl := .z
def S152 (_ : CV) (a0 : AV) (h : AH) : R :=
pEq .slc false a0 .nils fun v0 =>
qz v0 (
some (.nils, h)) (
qp h 67 [(iI 0), (uU 0)] 0 [] fun v1 h2 =>
q8 h2 67 2 v1 a0 fun v3 h4 =>
some (v3, h4))
def W152 : WF := w_1 S152
theorem W152_ok : WOk Tryz.prog 152 W152 := jk (pl := P152) fun _ _ _ => by kernel_rfl
def P153 : Pl := (.n none .z (.n none .z (.n none (.n none .z (.n (some [4, 3, 2]) (.n (some [8, 7, 5, 4, 3, 2]) .z (.n none .z (.n (some [13, 7, 5, 4, 3, 2]) .z (.n none (.r [[4, 3, 2]]) (.n (some [18, 7, 5, 4, 3, 2]) .z (.n none (.r [[4, 3, 2]]) (.n (some [27, 7, 5, 4, 3, 2]) .z (.n none (.r [[4, 3, 2]]) .z)))))))) .z)) (.n none (.r [[4, 3, 2]]) .z))))
def S153 (_ : CV) (a0 : AV) (h : AH) : R :=
jX h 214 (.agg [(iI 0), (iI 0)]) fun v0 h1 =>
jX h1 214 (.agg [(iI 0), (iI 0)]) fun v2 h3 =>
jX h3 214 (.agg [(iI 0), (iI 0)]) fun v4 h5 =>
qm [(iI 0), (iI 0)] [(1, 1, (iI 7))] fun v6 =>
jX h5 214 (.agg [(iI 0), (iI 0)]) fun v7 h8 =>
qy h8 v7 v6 2 fun h9 =>
qE (α := u3_0 → AH → List Nat → R) (fun s10 h11 d12 =>
qE (α := u3_0 → AH → R) (fun s14 h15 =>
qT d12 h15 fun h17 =>
qR h17 s14.2.2.1 2 fun v18 =>
qR h17 s14.2.1 2 fun v19 =>
qR h17 s14.1 2 fun v20 =>
some ((.tup [v18, v19, v20]), h17)) fun j16 =>
qR h11 s10.2.2.1 2 fun v21 =>
qR h11 s10.2.1 2 fun v22 =>
qR h11 s10.1 2 fun v23 =>
qy h11 s10.2.2.1 v21 2 fun h24 =>
qy h24 s10.2.1 v22 2 fun h25 =>
qy h25 s10.1 v23 2 fun h26 =>
zx s10.1 (some 2) v23 h24 h25 h11.nx <|
zx s10.1 (some 2) v23 h11 h24 h11.nx <|
zx s10.2.1 (some 2) v22 h11 h24 h11.nx <|
j16 (s10.1, s10.2.1, s10.2.2.1, ()) h26) fun j13 =>
qE (α := u6_0 → AH → List Nat → R) (fun s27 h28 d29 =>
qz s27.1 (
qR h28 s27.2.2.1 2 fun v31 =>
qy h28 s27.2.2.2.2.2.1 v31 2 fun h32 =>
j13 (s27.2.2.2.1, s27.2.2.2.2.1, s27.2.2.2.2.2.1, ()) h32 d29) (
qE (α := u6_0 → AH → List Nat → R) (fun s33 h34 d35 =>
qz s33.1 (
qE (α := u3_0 → AH → R) (fun s37 h38 =>
j13 (s37.1, s37.2.1, s37.2.2.1, ()) h38 d35) fun j39 =>
qR h34 s33.2.2.1 2 fun v40 =>
qR h34 s33.2.2.1 2 fun v41 =>
qy h34 s33.2.2.2.2.2.1 v40 2 fun h42 =>
qy h42 s33.2.2.2.2.1 v41 2 fun h43 =>
zx s33.2.2.1 (some 2) v41 h34 h42 h34.nx <|
j39 (s33.2.2.2.1, s33.2.2.2.2.1, s33.2.2.2.2.2.1, ()) h43) (
qE (α := u6_0 → AH → List Nat → R) (fun s44 h45 d46 =>
qz s44.1 (
qE (α := u3_0 → AH → R) (fun s48 h49 =>
j13 (s48.1, s48.2.1, s48.2.2.1, ()) h49 d46) fun j50 =>
qR h45 s44.2.2.1 2 fun v51 =>
qR h45 s44.2.2.1 2 fun v52 =>
qR h45 s44.2.2.1 2 fun v53 =>
qy h45 s44.2.2.2.2.2.1 v51 2 fun h54 =>
qy h54 s44.2.2.2.2.1 v52 2 fun h55 =>
qy h55 s44.2.2.2.1 v53 2 fun h56 =>
zx s44.2.2.1 (some 2) v53 h54 h55 h45.nx <|
zx s44.2.2.1 (some 2) v53 h45 h54 h45.nx <|
zx s44.2.2.1 (some 2) v52 h45 h54 h45.nx <|
j50 (s44.2.2.2.1, s44.2.2.2.2.1, s44.2.2.2.2.2.1, ()) h56) (
qE (α := u6_0 → AH → List Nat → R) (fun s57 h58 d59 =>
qz s57.1 (
qE (α := u3_0 → AH → R) (fun s61 h62 =>
j13 (s61.1, s61.2.1, s61.2.2.1, ()) h62 d59) fun j63 =>
qR h58 s57.2.2.1 2 fun v64 =>
qR h58 s57.2.2.1 2 fun v65 =>
qm [(iI 0), (iI 0)] [(1, 1, (iI 15))] fun v66 =>
qy h58 s57.2.2.2.2.2.1 v64 2 fun h67 =>
qy h67 s57.2.2.2.2.1 v65 2 fun h68 =>
qy h68 s57.2.2.2.1 v66 2 fun h69 =>
zx s57.2.2.1 (some 2) v65 h58 h67 h58.nx <|
j63 (s57.2.2.2.1, s57.2.2.2.2.1, s57.2.2.2.2.2.1, ()) h69) (
qq .eql s57.2.1 (iI 12) fun v70 =>
qz v70 (
qm [(iI 0), (iI 0)] [(1, 1, (iI 40))] fun v71 =>
qy h58 s57.2.2.2.1 v71 2 fun h72 =>
j13 (s57.2.2.2.1, s57.2.2.2.2.1, s57.2.2.2.2.2.1, ()) h72 d59) (
qq .eql s57.2.1 (iI 13) fun v73 =>
qz v73 (
qR h58 s57.2.2.1 2 fun v74 =>
qm [(iI 0), (iI 0)] [(1, 1, (iI 40))] fun v75 =>
qy h58 s57.2.2.2.2.2.1 v74 2 fun h76 =>
qy h76 s57.2.2.2.1 v75 2 fun h77 =>
j13 (s57.2.2.2.1, s57.2.2.2.2.1, s57.2.2.2.2.2.1, ()) h77 d59) (
qq .eql s57.2.1 (iI 23) fun v78 =>
qz v78 (
qm [(iI 0), (iI 0)] [(0, 1, (iI 1)), (1, 1, (iI 12))] fun v79 =>
qm [(iI 0), (iI 0)] [(1, 1, (iI 7))] fun v80 =>
qm [(iI 0), (iI 0)] [(1, 1, (iI 6))] fun v81 =>
qy h58 s57.2.2.2.2.2.1 v79 2 fun h82 =>
qy h82 s57.2.2.2.2.1 v80 2 fun h83 =>
qy h83 s57.2.2.2.1 v81 2 fun h84 =>
j13 (s57.2.2.2.1, s57.2.2.2.2.1, s57.2.2.2.2.2.1, ()) h84 d59) (
j13 (s57.2.2.2.1, s57.2.2.2.2.1, s57.2.2.2.2.2.1, ()) h58 d59))))) fun j60 =>
qq .eql s44.2.1 (iI 8) fun v85 =>
qz v85 (
j60 (v85, s44.2.1, s44.2.2.1, s44.2.2.2.1, s44.2.2.2.2.1, s44.2.2.2.2.2.1, ()) h45 d46) (
qq .eql s44.2.1 (iI 9) fun v86 =>
j60 (v86, s44.2.1, s44.2.2.1, s44.2.2.2.1, s44.2.2.2.2.1, s44.2.2.2.2.2.1, ()) h45 d46))) fun j47 =>
qq .eql s33.2.1 (iI 3) fun v87 =>
qz v87 (
j47 (v87, s33.2.1, s33.2.2.1, s33.2.2.2.1, s33.2.2.2.2.1, s33.2.2.2.2.2.1, ()) h34 d35) (
qq .eql s33.2.1 (iI 4) fun v88 =>
qz v88 (
j47 (v88, s33.2.1, s33.2.2.1, s33.2.2.2.1, s33.2.2.2.2.1, s33.2.2.2.2.2.1, ()) h34 d35) (
qq .eql s33.2.1 (iI 5) fun v89 =>
qz v89 (
j47 (v89, s33.2.1, s33.2.2.1, s33.2.2.2.1, s33.2.2.2.2.1, s33.2.2.2.2.2.1, ()) h34 d35) (
qq .eql s33.2.1 (iI 6) fun v90 =>
qz v90 (
j47 (v90, s33.2.1, s33.2.2.1, s33.2.2.2.1, s33.2.2.2.2.1, s33.2.2.2.2.2.1, ()) h34 d35) (
qq .eql s33.2.1 (iI 7) fun v91 =>
j47 (v91, s33.2.1, s33.2.2.1, s33.2.2.2.1, s33.2.2.2.2.1, s33.2.2.2.2.2.1, ()) h34 d35)))))) fun j36 =>
qq .eql s27.2.1 (iI 2) fun v92 =>
qz v92 (
j36 (v92, s27.2.1, s27.2.2.1, s27.2.2.2.1, s27.2.2.2.2.1, s27.2.2.2.2.2.1, ()) h28 d29) (
qq .eql s27.2.1 (iI 10) fun v93 =>
j36 (v93, s27.2.1, s27.2.2.1, s27.2.2.2.1, s27.2.2.2.2.1, s27.2.2.2.2.2.1, ()) h28 d29))) fun j30 =>
qq .eql a0 (iI 1) fun v94 =>
qz v94 (
j30 (v94, a0, v7, v4, v2, v0, ()) h9 []) (
qq .eql a0 (iI 11) fun v95 =>
qz v95 (
j30 (v95, a0, v7, v4, v2, v0, ()) h9 []) (
qq .eql a0 (iI 21) fun v96 =>
j30 (v96, a0, v7, v4, v2, v0, ()) h9 []))
def W153 : WF := w_1 S153
theorem W153_ok : WOk Tryz.prog 153 W153 := jk (pl := P153) fun _ _ _ => by kernel_rfl
def P154 : Pl := .z
def S154 (c : CV) (a0 : AV) (h : AH) : R :=
qG c (.fn 220 [] []) [] h fun v0 h1 =>
qG c (.fn 219 [] []) [v0, a0] h1 fun v2 h3 =>
some (v2, h3)
def W154 : WF := w_1 S154
theorem W154_ok : WOk Tryz.prog 154 W154 := jk (pl := P154) fun _ _ _ => by kernel_rfl
def P155 : Pl := (.n none .z (.n none (.r [[13, 9]]) .z))
def S155 (_ : CV) (a0 a1 : AV) (h : AH) : R :=
jX h 214 a0 fun v0 h1 =>
qJ v0 0 fun v2 =>
qX h1 v2 fun v3 =>
qq .geq a1 v3 fun v4 =>
qE (α := u2_0 → AH → R) (fun s5 h6 =>
qn s5.2.1 s5.1 (.bool false) fun v8 =>
some (v8, h6)) fun j7 =>
qi v4 true (
qJ v0 1 fun v9 =>
qX h1 v9 fun v10 =>
qq .leq a1 v10 fun v11 =>
j7 (v11, v4, ()) h1) (
j7 (.undef, v4, ()) h1)
def W155 : WF := w_2 S155
theorem W155_ok : WOk Tryz.prog 155 W155 := jC (pl := P155) fun _ _ _ _ => by kernel_rfl
def P156 : Pl := (.n none .z (.n none (.n none (.n none (.r [[9, 7, 0]]) (.n none .z (.n none (.r [[18, 16, 0]]) .z))) .z) .z))
def S156 (_ : CV) (a0 : AV) (h : AH) : R :=
qq .geq a0 (uU 1) fun v0 =>
qE (α := u3_0 → AH → R) (fun s1 h2 =>
qn s1.2.1 s1.1 (.bool false) fun v4 =>
qz v4 (
jR .i64 s1.2.2.1 fun v5 =>
some ((.tup [v5, (.bool false)]), h2)) (
qq .geq s1.2.2.1 (uU 9) fun v6 =>
qE (α := u3_0 → AH → R) (fun s7 h8 =>
qn s7.2.1 s7.1 (.bool false) fun v10 =>
qz v10 (
qq .sub s7.2.2.1 (uU 8) fun v11 =>
jR .i64 v11 fun v12 =>
some ((.tup [v12, (.bool true)]), h8)) (
some ((.tup [(iI 0), (.bool false)]), h8))) fun j9 =>
qi v6 true (
qq .leq s1.2.2.1 (uU 12) fun v13 =>
j9 (v13, v6, s1.2.2.1, ()) h2) (
j9 (.undef, v6, s1.2.2.1, ()) h2))) fun j3 =>
qi v0 true (
qq .leq a0 (uU 4) fun v14 =>
j3 (v14, v0, a0, ()) h) (
j3 (.undef, v0, a0, ()) h)
def W156 : WF := w_1 S156
theorem W156_ok : WOk Tryz.prog 156 W156 := jk (pl := P156) fun _ _ _ => by kernel_rfl
def P157 : Pl := (.n none .z (.n none (.n none .z (.n none (.n (some [5, 4, 3]) .z .z) .z)) .z))
def S157 (c : CV) (a0 a1 : AV) (h : AH) : R :=
jX h 3 a1 fun v0 h1 =>
jX h1 26 (uU 0) fun v2 h3 =>
jX h3 4 (.bool false) fun v4 h5 =>
qF a0 fun v6 =>
qJ v6 1 fun v7 =>
qX h5 v7 fun v8 =>
qG c (.fn 99 [] []) [v8] h5 fun v9 h10 =>
JN c v9 [.yield (h10.new .dfd).nx] ((h10.new .dfd).new (.loop .ready none 157 [1, 0, 1, 0] [5, 4, 3] [v4, v2, v0] h10.nx)) fun _ h11 =>
ve h11 (h10.new .dfd).nx fun p13 h12 =>
Jh p13 (
qy h12 v2 (uU 0) 1 fun h14 =>
qy h14 v4 (.bool false) 1 fun h15 =>
qT (h10.nx :: []) h15 fun h16 =>
qX h16 v2 fun v17 =>
qX h16 v4 fun v18 =>
some ((.tup [v17, v18]), h16)) <|
pIs p13 .ret (
qT (h10.nx :: []) h12 fun h19 =>
qX h19 v2 fun v20 =>
qX h19 v4 fun v21 =>
some ((.tup [v20, v21]), h19)) <|
none
def W157 : WF := w_2 S157
theorem W157_ok : WOk Tryz.prog 157 W157 := jC (pl := P157) fun _ _ _ _ => by kernel_rfl
def P158 : Pl := (.n none .z (.n none .z (.n none .z (.n none (.n none .z (.n none (.n (some [20, 19, 18, 5, 0]) .z .z) .z)) .z))))
def S158 (c : CV) (a0 a1 : AV) (h : AH) : R :=
qG c (.fn 100 [] []) [(iI 96)] h fun v0 h1 =>
qG c (.fn 222 [] []) [a0] h1 fun v2 h3 =>
qF v2 fun v4 =>
qJ v4 0 fun v5 =>
qX h3 v5 fun v6 =>
qG c (.fn 102 [] []) [v6] h3 fun v7 h8 =>
qG c (.fn 101 [] []) [v0, v7] h8 fun _ h10 =>
q9 a1 fun v11 =>
zJ (σ := u5_0) NN (fun i15 s12 h13 d14 =>
qq .lss s12.1 s12.2.1 fun v16 =>
qz v16 (
jz s12.2.2.1 s12.1 2 fun v17 =>
qR h13 v17 2 fun v18 =>
jX h13 67 (.agg [(iI 0), (uU 0)]) fun v19 h20 =>
qy h20 v19 v18 2 fun h21 =>
qJ v19 0 fun v22 =>
qX h21 v22 fun v23 =>
qJ v19 1 fun v24 =>
qX h21 v24 fun v25 =>
qG c (.fn 194 [] []) [s12.2.2.2.2.1, v23, v25] h21 fun v26 h27 =>
qq .neq v26 (iI 0) fun v28 =>
qz v28 (
qG c (.fn 222 [] []) [s12.2.2.2.2.1] h27 fun v29 h30 =>
qF v29 fun v31 =>
qJ v31 0 fun v32 =>
qy h30 v32 s12.2.2.2.1 1 fun h33 =>
qT d14 h33 fun h34 =>
some (v26, h34)) (
qq .add s12.1 (iI 1) fun v35 =>
i15 (v35, s12.2.1, s12.2.2.1, s12.2.2.2.1, s12.2.2.2.2.1, ()) h27 d14)) (
qT d14 h13 fun h36 =>
some ((iI 0), h36))) ((iI 0), v11, a1, v0, a0, ()) h10 []
def W158 : WF := w_2 S158
theorem W158_ok : WOk Tryz.prog 158 W158 := jC (pl := P158) fun _ _ _ _ => by kernel_rfl
def P159 : Pl := (.n none .z (.n none .z (.n none .z (.n none (.r [[]]) .z))))
def S159 (c : CV) (a0 a1 a2 a3 : AV) (h : AH) : R :=
qq .neq a1 (iI 0) fun v0 =>
qz v0 (
some (a1, h)) (
qX h a2 fun v1 =>
qF v1 fun v2 =>
qJ v2 14 fun v3 =>
qX h v3 fun v4 =>
qG c (.fn 160 [] []) [v4, a0] h fun v5 h6 =>
pUn .not v5 fun v7 =>
qz v7 (
some ((iI 5), h6)) (
qE (α := Unit → AH → R) (fun _ h9 =>
some ((iI 0), h9)) fun j10 =>
qX h6 a2 fun v11 =>
qJ a3 3 fun v12 =>
qX h6 v12 fun v13 =>
qG c (.fn 83 [] []) [a0] h6 fun v14 h15 =>
qF v11 fun v16 =>
qJ v16 6 fun v17 =>
yU v17 v13 8 1 fun v18 =>
qy h15 v18 v14 1 fun h19 =>
zx v12 none v13 h6 h15 h6.nx <|
zx a2 none v11 h6 h15 h6.nx <|
j10 (()) h19))
def W159 : WF := w_4 S159
theorem W159_ok : WOk Tryz.prog 159 W159 := yl (pl := P159) fun _ _ _ _ _ _ => by kernel_rfl
def P160 : Pl := .z
def S160 (c : CV) (a0 a1 : AV) (h : AH) : R :=
qG c (.fn 112 [] []) [a0, (.iface 4 a1)] h fun v0 h1 =>
some (v0, h1)
def W160 : WF := w_2 S160
theorem W160_ok : WOk Tryz.prog 160 W160 := jC (pl := P160) fun _ _ _ _ => by kernel_rfl
def P161 : Pl := (.n none .z (.n none (.n none (.r [[17, 15, 2, 0]]) .z) (.n none .z (.n none .z (.n none .z (.n none .z (.n none .z (.n none (.n none .z (.n none (.n (some [67, 66, 65, 0]) .z .z) .z)) .z))))))))
def S161 (c : CV) (a0 a1 a2 : AV) (h : AH) : R :=
qq .lss a1 (iI 6) fun v0 =>
qE (α := u4_0 → AH → R) (fun s1 h2 =>
qn s1.2.1 (.bool true) s1.1 fun v4 =>
qz v4 (
some ((iI 2), h2)) (
qG c (.fn 223 [] []) [s1.2.2.2.1] h2 fun v5 h6 =>
qm [.nilp, (iI 0), (iI 0)] [(0, 1, v5)] fun v7 =>
jX h6 260 v7 fun v8 h9 =>
qG c s1.2.2.1 [v8] h9 fun _ h11 =>
qF v8 fun v12 =>
qJ v12 1 fun v13 =>
qX h11 v13 fun v14 =>
qq .eql v14 (iI 11) fun v15 =>
qz v15 (
qF v8 fun v16 =>
qJ v16 0 fun v17 =>
qX h11 v17 fun v18 =>
qG c (.fn 14 [] []) [v18] h11 fun v19 h20 =>
qG c (.fn 109 [] []) [s1.2.2.2.1, v19] h20 fun v21 h22 =>
qD v21 0 fun _ =>
qD v21 1 fun v24 =>
some (v24, h22)) (
qF v8 fun v25 =>
qJ v25 1 fun v26 =>
qX h11 v26 fun v27 =>
qq .neq v27 (iI 0) fun v28 =>
qz v28 (
qF v8 fun v29 =>
qJ v29 1 fun v30 =>
qX h11 v30 fun v31 =>
some (v31, h11)) (
qF v8 fun v32 =>
qJ v32 0 fun v33 =>
qX h11 v33 fun v34 =>
qG c (.fn 31 [] []) [v34] h11 fun v35 h36 =>
qG c (.fn 111 [] []) [s1.2.2.2.1, v35] h36 fun v37 h38 =>
qq .neq v37 (iI 0) fun v39 =>
qz v39 (
some (v37, h38)) (
qF v8 fun v40 =>
qJ v40 0 fun v41 =>
qX h38 v41 fun v42 =>
qG c (.fn 33 [] []) [v42] h38 fun v43 h44 =>
q9 v43 fun v45 =>
zJ (σ := u4_0) NN (fun i49 s46 h47 d48 =>
qq .lss s46.1 s46.2.1 fun v50 =>
qz v50 (
jz s46.2.2.1 s46.1 1 fun v51 =>
qX h47 v51 fun v52 =>
qG c (.fn 198 [] []) [s46.2.2.2.1, v52] h47 fun _ h54 =>
qq .add s46.1 (iI 1) fun v55 =>
i49 (v55, s46.2.1, s46.2.2.1, s46.2.2.2.1, ()) h54 d48) (
qT d48 h47 fun h56 =>
some ((iI 0), h56))) ((iI 0), v45, v43, s1.2.2.2.1, ()) h44 []))))) fun j3 =>
qi v0 false (
qq .geq a1 (iI 14) fun v57 =>
j3 (v57, v0, a2, a0, ()) h) (
j3 (.undef, v0, a2, a0, ()) h)
def W161 : WF := w_3 S161
theorem W161_ok : WOk Tryz.prog 161 W161 := zZ (pl := P161) fun _ _ _ _ _ => by kernel_rfl
def P162 : Pl := (.n none .z (.n none (.n none (.r [[22, 18, 6, 5, 3, 2, 0]]) .z) .z))
def S162 (c : CV) (a0 a1 a2 a3 : AV) (h : AH) : R :=
qX h a1 fun v0 =>
qX h a2 fun v1 =>
qG c (.fn 163 [] []) [a0, v0, v1] h fun v2 h3 =>
qD v2 0 fun v4 =>
qD v2 1 fun v5 =>
qG c (.fn 164 [] []) [a0] h3 fun v6 h7 =>
pUn .not v6 fun v8 =>
qE (α := u7_0 → AH → R) (fun s9 h10 =>
qn s9.2.1 (.bool true) s9.1 fun v12 =>
qz v12 (
some ((.tup []), h10)) (
qG c (.fn 166 [] []) [s9.2.2.2.2.2.2.1, (iI 2)] h10 fun v13 h14 =>
qq .add v13 (iI 0) fun v15 =>
qX h14 s9.2.2.2.2.2.1 fun v16 =>
qG c (.fn 167 [] []) [s9.2.2.2.2.2.2.1, v15, v16] h14 fun _ h18 =>
qq .add v13 (iI 1) fun v19 =>
qG c (.fn 168 [] []) [s9.2.2.2.2.2.2.1, v19, s9.2.2.1] h18 fun _ h21 =>
qG c (.fn 168 [] []) [s9.2.2.2.2.2.2.1, s9.2.2.2.1, v13] h21 fun _ h23 =>
qy h23 s9.2.2.2.2.1 (.bool true) 1 fun h24 =>
some ((.tup []), h24))) fun j11 =>
qi v8 false (
qX h7 a2 fun v25 =>
qG c (.fn 165 [] []) [a0, v5, v25] h7 fun v26 h27 =>
j11 (v26, v8, v5, v4, a3, a2, a0, ()) h27) (
j11 (.undef, v8, v5, v4, a3, a2, a0, ()) h7)
def W162 : WF := w_4 S162
theorem W162_ok : WOk Tryz.prog 162 W162 := yl (pl := P162) fun _ _ _ _ _ _ => by kernel_rfl
def P163 : Pl := (.n none .z (.n none .z (.n none (.n (some [7, 6]) (.n (some [7, 6, 2, 0]) (.n none .z (.n none (.n none .z (.n none (.n none (.r [[22, 16, 7, 6, 2, 0]]) .z) .z)) .z)) .z) .z) .z)))
def S163 (c : CV) (a0 a1 a2 : AV) (h : AH) : R :=
qE (α := u2_0 → AH → List Nat → R) (fun s0 h1 d2 =>
qT d2 h1 fun h4 =>
some ((.tup [s0.2.1, s0.1]), h4)) fun j3 =>
zJ (σ := u4_0) NN (fun i8 s5 h6 d7 =>
qG c (.fn 224 [] []) [s5.2.2.2.1] h6 fun v9 h10 =>
qz v9 (
qG c (.fn 225 [] []) [s5.2.2.2.1, s5.2.1] h10 fun v11 h12 =>
qq .eql v11 (iI 0) fun v13 =>
qE (α := u6_0 → AH → R) (fun s14 h15 =>
qn s14.2.1 (.bool true) s14.1 fun v17 =>
qz v17 (
j3 (s14.2.2.1, s14.2.2.2.1, ()) h15 d7) (
qq .add s14.2.2.1 (iI 1) fun v18 =>
i8 (s14.2.2.1, v18, s14.2.2.2.2.1, s14.2.2.2.2.2.1, ()) h15 d7)) fun j16 =>
qi v13 false (
qq .add v11 (iI 0) fun v19 =>
qG c (.fn 170 [] []) [s5.2.2.2.1, v19] h12 fun v20 h21 =>
qq .geq v20 s5.2.2.1 fun v22 =>
j16 (v22, v13, v11, s5.2.1, s5.2.2.1, s5.2.2.2.1, ()) h21) (
j16 (.undef, v13, v11, s5.2.1, s5.2.2.1, s5.2.2.2.1, ()) h12)) (
j3 (s5.1, s5.2.1, ()) h10 d7)) ((iI 0), a1, a2, a0, ()) h []
def W163 : WF := w_3 S163
theorem W163_ok : WOk Tryz.prog 163 W163 := zZ (pl := P163) fun _ _ _ _ _ => by kernel_rfl
def P164 : Pl := .z
def S164 (_ : CV) (a0 : AV) (h : AH) : R :=
qF a0 fun v0 =>
qJ v0 1 fun v1 =>
qX h v1 fun v2 =>
qq .eql v2 (iI 0) fun v3 =>
some (v3, h)
def W164 : WF := w_1 S164
theorem W164_ok : WOk Tryz.prog 164 W164 := jk (pl := P164) fun _ _ _ => by kernel_rfl
def P165 : Pl := (.n none .z (.n none (.r [[11, 9, 2, 1, 0], [19, 13]]) .z))
def S165 (c : CV) (a0 a1 a2 : AV) (h : AH) : R :=
qG c (.fn 164 [] []) [a0] h fun v0 h1 =>
qE (α := u5_0 → AH → R) (fun s2 h3 =>
qn s2.2.1 s2.1 (.bool false) fun v5 =>
qE (α := u2_0 → AH → R) (fun s6 h7 =>
qn s6.2.1 s6.1 (.bool false) fun v9 =>
some (v9, h7)) fun j8 =>
qi v5 true (
qq .add s2.2.2.2.1 (iI 0) fun v10 =>
qG c (.fn 170 [] []) [s2.2.2.2.2.1, v10] h3 fun v11 h12 =>
qq .eql v11 s2.2.2.1 fun v13 =>
j8 (v13, v5, ()) h12) (
j8 (.undef, v5, ()) h3)) fun j4 =>
qi v0 true (
qq .neq a1 (iI 0) fun v14 =>
j4 (v14, v0, a2, a1, a0, ()) h1) (
j4 (.undef, v0, a2, a1, a0, ()) h1)
def W165 : WF := w_3 S165
theorem W165_ok : WOk Tryz.prog 165 W165 := zZ (pl := P165) fun _ _ _ _ _ => by kernel_rfl
def P166 : Pl := .z
def S166 (c : CV) (a0 a1 : AV) (h : AH) : R :=
qG c (.fn 164 [] []) [a0] h fun v0 h1 =>
pUn .not v0 fun v2 =>
qz v2 (
some ((iI 0), h1)) (
qF a0 fun v3 =>
qJ v3 0 fun v4 =>
qX h1 v4 fun v5 =>
qG c (.fn 129 [] []) [v5, a1] h1 fun v6 h7 =>
qD v6 0 fun v8 =>
qD v6 1 fun v9 =>
qG c (.fn 226 [] []) [a0, v9] h7 fun _ h11 =>
some (v8, h11))
def W166 : WF := w_2 S166
theorem W166_ok : WOk Tryz.prog 166 W166 := jC (pl := P166) fun _ _ _ _ => by kernel_rfl
def P167 : Pl := .z
def S167 (c : CV) (a0 a1 a2 : AV) (h : AH) : R :=
qG c (.fn 164 [] []) [a0] h fun v0 h1 =>
qz v0 (
qF a0 fun v2 =>
qJ v2 0 fun v3 =>
qX h1 v3 fun v4 =>
qG c (.fn 128 [] []) [v4, a1, a2] h1 fun v5 h6 =>
qG c (.fn 226 [] []) [a0, v5] h6 fun _ h8 =>
some ((.tup []), h8)) (
some ((.tup []), h1))
def W167 : WF := w_3 S167
theorem W167_ok : WOk Tryz.prog 167 W167 := zZ (pl := P167) fun _ _ _ _ _ => by kernel_rfl
def P168 : Pl := .z
def S168 (c : CV) (a0 a1 a2 : AV) (h : AH) : R :=
jR .u64 a2 fun v0 =>
qG c (.fn 167 [] []) [a0, a1, v0] h fun _ h2 =>
some ((.tup []), h2)
def W168 : WF := w_3 S168
theorem W168_ok : WOk Tryz.prog 168 W168 := zZ (pl := P168) fun _ _ _ _ _ => by kernel_rfl
def P169 : Pl := .z
def S169 (c : CV) (a0 a1 a2 a3 : AV) (h : AH) : R :=
qX h a1 fun v0 =>
qX h a2 fun v1 =>
qG c (.fn 163 [] []) [a0, v0, v1] h fun v2 h3 =>
qD v2 0 fun v4 =>
qD v2 1 fun v5 =>
qX h3 a2 fun v6 =>
qG c (.fn 165 [] []) [a0, v5, v6] h3 fun v7 h8 =>
qz v7 (
qq .add v5 (iI 1) fun v9 =>
qG c (.fn 170 [] []) [a0, v9] h8 fun v10 h11 =>
qG c (.fn 167 [] []) [a0, v4, v10] h11 fun _ h13 =>
qG c (.fn 171 [] []) [a0, v5] h13 fun _ h15 =>
qy h15 a3 (.bool true) 1 fun h16 =>
some ((.tup []), h16)) (
some ((.tup []), h8))
def W169 : WF := w_4 S169
theorem W169_ok : WOk Tryz.prog 169 W169 := yl (pl := P169) fun _ _ _ _ _ _ => by kernel_rfl
def P170 : Pl := .z
def S170 (c : CV) (a0 a1 : AV) (h : AH) : R :=
qG c (.fn 164 [] []) [a0] h fun v0 h1 =>
pUn .not v0 fun v2 =>
qz v2 (
some ((uU 0), h1)) (
qF a0 fun v3 =>
qJ v3 0 fun v4 =>
qX h1 v4 fun v5 =>
qG c (.fn 109 [] []) [v5, a1] h1 fun v6 h7 =>
qD v6 0 fun v8 =>
qD v6 1 fun v9 =>
qG c (.fn 226 [] []) [a0, v9] h7 fun _ h11 =>
some (v8, h11))
def W170 : WF := w_2 S170
theorem W170_ok : WOk Tryz.prog 170 W170 := jC (pl := P170) fun _ _ _ _ => by kernel_rfl
def P171 : Pl := .z
def S171 (c : CV) (a0 a1 : AV) (h : AH) : R :=
qG c (.fn 164 [] []) [a0] h fun v0 h1 =>
qz v0 (
qF a0 fun v2 =>
qJ v2 0 fun v3 =>
qX h1 v3 fun v4 =>
qG c (.fn 130 [] []) [v4, a1] h1 fun v5 h6 =>
qG c (.fn 226 [] []) [a0, v5] h6 fun _ h8 =>
some ((.tup []), h8)) (
some ((.tup []), h1))
def W171 : WF := w_2 S171
theorem W171_ok : WOk Tryz.prog 171 W171 := jC (pl := P171) fun _ _ _ _ => by kernel_rfl
def P172 : Pl := .z
def S172 (c : CV) (a0 a1 a2 a3 : AV) (h : AH) : R :=
qX h a1 fun v0 =>
qX h a2 fun v1 =>
qG c (.fn 163 [] []) [a0, v0, v1] h fun v2 h3 =>
qD v2 0 fun _ =>
qD v2 1 fun v5 =>
qX h3 a2 fun v6 =>
qG c (.fn 165 [] []) [a0, v5, v6] h3 fun v7 h8 =>
qy h8 a3 v7 1 fun h9 =>
some ((.tup []), h9)
def W172 : WF := w_4 S172
theorem W172_ok : WOk Tryz.prog 172 W172 := yl (pl := P172) fun _ _ _ _ _ _ => by kernel_rfl
def P173 : Pl := (.n none .z (.n (some [6, 4, 3, 2, 0]) (.n none (.r [[20, 15, 6, 4, 3, 2, 1, 0]]) .z) (.n none .z (.n none .z (.n none .z (.n (some [7, 6, 4, 3, 2, 0]) (.n none (.r [[53, 43, 7, 6, 4, 3, 2, 0], [60, 55, 7, 6, 4, 3, 2, 0]]) .z) .z))))))
def S173 (c : CV) (a0 a1 a2 a3 a4 : AV) (h : AH) : R :=
qX h a1 fun v0 =>
qG c (.fn 174 [] []) [a0, v0] h fun v1 h2 =>
qE (α := u5_0 → AH → List Nat → R) (fun s3 h4 d5 =>
qG c (.fn 164 [] []) [s3.2.2.2.2.1] h4 fun v7 h8 =>
pUn .not v7 fun v9 =>
qz v9 (
qT d5 h8 fun h10 =>
some ((.tup []), h10)) (
qX h8 s3.2.2.2.1 fun v11 =>
qG c (.fn 176 [] []) [s3.1, v11] h8 fun v12 h13 =>
qD v12 0 fun v14 =>
qD v12 1 fun v15 =>
qq .neq v15 (iI 0) fun v16 =>
qz v16 (
qq .add v15 (iI 1) fun v17 =>
qX h13 s3.2.2.1 fun v18 =>
qG c (.fn 167 [] []) [s3.2.2.2.2.1, v17, v18] h13 fun _ h20 =>
qT d5 h20 fun h21 =>
some ((.tup []), h21)) (
qE (α := u6_0 → AH → List Nat → R) (fun s22 h23 d24 =>
qG c (.fn 166 [] []) [s22.2.2.2.2.2.1, (iI 3)] h23 fun v26 h27 =>
qq .add v26 (iI 0) fun v28 =>
qX h27 s22.2.2.2.2.1 fun v29 =>
qG c (.fn 167 [] []) [s22.2.2.2.2.2.1, v28, v29] h27 fun _ h31 =>
qq .add v26 (iI 1) fun v32 =>
qX h31 s22.2.2.2.1 fun v33 =>
qG c (.fn 167 [] []) [s22.2.2.2.2.2.1, v32, v33] h31 fun _ h35 =>
qq .add v26 (iI 2) fun v36 =>
qG c (.fn 168 [] []) [s22.2.2.2.2.2.1, v36, (iI 0)] h35 fun _ h38 =>
qG c (.fn 168 [] []) [s22.2.2.2.2.2.1, s22.1, v26] h38 fun _ h40 =>
qF s22.2.1 fun v41 =>
qJ v41 1 fun v42 =>
qX h40 v42 fun v43 =>
qq .add v43 (iI 0) fun v44 =>
qF s22.2.1 fun v45 =>
qJ v45 4 fun v46 =>
qX h40 v46 fun v47 =>
qq .add v47 (uU 1) fun v48 =>
qG c (.fn 167 [] []) [s22.2.2.2.2.2.1, v44, v48] h40 fun _ h50 =>
qy h50 s22.2.2.1 (.bool true) 1 fun h51 =>
qT d24 h51 fun h52 =>
some ((.tup []), h52)) fun j25 =>
qG c (.fn 164 [] []) [s3.2.2.2.2.1] h13 fun v53 h54 =>
qE (α := u8_0 → AH → R) (fun s55 h56 =>
qn s55.2.1 s55.1 (.bool false) fun v58 =>
qE (α := u8_0 → AH → R) (fun s59 h60 =>
qn s59.2.1 s59.1 (.bool false) fun v62 =>
qz v62 (
qG c (.fn 177 [] []) [s59.2.2.2.1] h60 fun _ h64 =>
qX h64 s59.2.2.2.2.2.2.1 fun v65 =>
qG c (.fn 176 [] []) [s59.2.2.2.1, v65] h64 fun v66 h67 =>
qD v66 0 fun v68 =>
qD v66 1 fun _ =>
j25 (v68, s59.2.2.2.1, s59.2.2.2.2.1, s59.2.2.2.2.2.1, s59.2.2.2.2.2.2.1, s59.2.2.2.2.2.2.2.1, ()) h67 d5) (
j25 (s59.2.2.1, s59.2.2.2.1, s59.2.2.2.2.1, s59.2.2.2.2.2.1, s59.2.2.2.2.2.2.1, s59.2.2.2.2.2.2.2.1, ()) h60 d5)) fun j61 =>
qi v58 true (
qF s55.2.2.2.1 fun v70 =>
qJ v70 2 fun v71 =>
qX h56 v71 fun v72 =>
qq .lss v72 (iI 16) fun v73 =>
j61 (v73, v58, s55.2.2.1, s55.2.2.2.1, s55.2.2.2.2.1, s55.2.2.2.2.2.1, s55.2.2.2.2.2.2.1, s55.2.2.2.2.2.2.2.1, ()) h56) (
j61 (.undef, v58, s55.2.2.1, s55.2.2.2.1, s55.2.2.2.2.1, s55.2.2.2.2.2.1, s55.2.2.2.2.2.2.1, s55.2.2.2.2.2.2.2.1, ()) h56)) fun j57 =>
qi v53 true (
qF s3.1 fun v74 =>
qJ v74 4 fun v75 =>
qX h54 v75 fun v76 =>
qF s3.1 fun v77 =>
qJ v77 2 fun v78 =>
qX h54 v78 fun v79 =>
jR .u64 v79 fun v80 =>
qq .geq v76 v80 fun v81 =>
j57 (v81, v53, v14, s3.1, s3.2.1, s3.2.2.1, s3.2.2.2.1, s3.2.2.2.2.1, ()) h54) (
j57 (.undef, v53, v14, s3.1, s3.2.1, s3.2.2.1, s3.2.2.2.1, s3.2.2.2.2.1, ()) h54)))) fun j6 =>
qG c (.fn 164 [] []) [a0] h2 fun v82 h83 =>
qE (α := u8_0 → AH → R) (fun s84 h85 =>
qn s84.2.1 s84.1 (.bool false) fun v87 =>
qz v87 (
qX h85 s84.2.2.2.2.2.2.1 fun v88 =>
qG c (.fn 175 [] []) [s84.2.2.2.2.2.2.2.1, v88] h85 fun v89 h90 =>
j6 (v89, s84.2.2.2.1, s84.2.2.2.2.1, s84.2.2.2.2.2.1, s84.2.2.2.2.2.2.2.1, ()) h90 []) (
j6 (s84.2.2.1, s84.2.2.2.1, s84.2.2.2.2.1, s84.2.2.2.2.2.1, s84.2.2.2.2.2.2.2.1, ()) h85 [])) fun j86 =>
qi v82 true (
qF v1 fun v91 =>
qJ v91 1 fun v92 =>
qX h83 v92 fun v93 =>
qq .eql v93 (iI 0) fun v94 =>
j86 (v94, v82, v1, a4, a3, a2, a1, a0, ()) h83) (
j86 (.undef, v82, v1, a4, a3, a2, a1, a0, ()) h83)
def W173 : WF := w_5 S173
theorem W173_ok : WOk Tryz.prog 173 W173 := kQ (pl := P173) fun _ _ _ _ _ _ _ => by kernel_rfl
def P174 : Pl := (.n none .z (.n none .z (.n none .z (.n none .z (.n none .z (.n (some [6, 5, 0]) (.n none (.r [[40, 38, 6, 5, 0], [47, 42, 6, 5, 0]]) .z) .z))))))
def S174 (c : CV) (a0 a1 : AV) (h : AH) : R :=
qG c (.fn 225 [] []) [a0, a1] h fun v0 h1 =>
qm [.nilp, (iI 0), (iI 0), (iI 0), (uU 0)] [(0, 1, a0), (1, 1, v0)] fun v2 =>
jX h1 235 v2 fun v3 h4 =>
qF v3 fun v5 =>
qJ v5 1 fun v6 =>
qX h4 v6 fun v7 =>
qq .eql v7 (iI 0) fun v8 =>
qz v8 (
some (v3, h4)) (
qF v3 fun v9 =>
qJ v9 1 fun v10 =>
qX h4 v10 fun v11 =>
qq .add v11 (iI 0) fun v12 =>
qG c (.fn 170 [] []) [a0, v12] h4 fun v13 h14 =>
qF v3 fun v15 =>
qJ v15 4 fun v16 =>
qy h14 v16 v13 1 fun h17 =>
qF v3 fun v18 =>
qJ v18 1 fun v19 =>
qX h17 v19 fun v20 =>
qq .add v20 (iI 1) fun v21 =>
qG c (.fn 170 [] []) [a0, v21] h17 fun v22 h23 =>
qE (α := u3_0 → AH → List Nat → R) (fun s24 h25 d26 =>
jR .i64 s24.1 fun v28 =>
qF s24.2.1 fun v29 =>
qJ v29 1 fun v30 =>
qX h25 v30 fun v31 =>
qq .add v31 (iI 2) fun v32 =>
qG c (.fn 225 [] []) [s24.2.2.1, v32] h25 fun v33 h34 =>
qF s24.2.1 fun v35 =>
qJ v35 2 fun v36 =>
qy h34 v36 v28 1 fun h37 =>
qF s24.2.1 fun v38 =>
qJ v38 3 fun v39 =>
qy h37 v39 v33 1 fun h40 =>
qT d26 h40 fun h41 =>
some (s24.2.1, h41)) fun j27 =>
qq .lss v22 (uU 2) fun v42 =>
qE (α := u5_0 → AH → R) (fun s43 h44 =>
qn s43.2.1 (.bool true) s43.1 fun v46 =>
qE (α := u5_0 → AH → R) (fun s47 h48 =>
qn s47.2.1 (.bool true) s47.1 fun v50 =>
qz v50 (
qG c (.fn 226 [] []) [s47.2.2.2.2.1, (iI 2)] h48 fun _ h52 =>
j27 ((uU 2), s47.2.2.2.1, s47.2.2.2.2.1, ()) h52 []) (
j27 (s47.2.2.1, s47.2.2.2.1, s47.2.2.2.2.1, ()) h48 [])) fun j49 =>
qi v46 false (
qq .sub s43.2.2.1 (uU 1) fun v53 =>
qq .and s43.2.2.1 v53 fun v54 =>
qq .neq v54 (uU 0) fun v55 =>
j49 (v55, v46, s43.2.2.1, s43.2.2.2.1, s43.2.2.2.2.1, ()) h44) (
j49 (.undef, v46, s43.2.2.1, s43.2.2.2.1, s43.2.2.2.2.1, ()) h44)) fun j45 =>
qi v42 false (
qq .gtr v22 (uU 16) fun v56 =>
j45 (v56, v42, v22, v3, a0, ()) h23) (
j45 (.undef, v42, v22, v3, a0, ()) h23))
def W174 : WF := w_2 S174
theorem W174_ok : WOk Tryz.prog 174 W174 := jC (pl := P174) fun _ _ _ _ => by kernel_rfl
def P175 : Pl := (.n none .z (.n none .z (.n none (.n none .z (.n none (.n (some [14, 5, 1, 0]) .z .z) .z)) .z)))
def S175 (c : CV) (a0 a1 : AV) (h : AH) : R :=
qG c (.fn 166 [] []) [a0, (iI 3)] h fun v0 h1 =>
qG c (.fn 166 [] []) [a0, (iI 2)] h1 fun v2 h3 =>
qm [.nilp, (iI 0), (iI 0), (iI 0), (uU 0)] [(0, 1, a0), (1, 1, v0), (2, 1, (iI 2)), (3, 1, v2)] fun v4 =>
jX h3 235 v4 fun v5 h6 =>
zJ (σ := u4_0) NN (fun i10 s7 h8 d9 =>
qq .lss s7.1 (iI 2) fun v11 =>
qz v11 (
qF s7.2.1 fun v12 =>
qJ v12 3 fun v13 =>
qX h8 v13 fun v14 =>
qq .add v14 s7.1 fun v15 =>
qG c (.fn 168 [] []) [s7.2.2.2.1, v15, (iI 0)] h8 fun _ h17 =>
qq .add s7.1 (iI 1) fun v18 =>
i10 (v18, s7.2.1, s7.2.2.1, s7.2.2.2.1, ()) h17 d9) (
qF s7.2.1 fun v19 =>
qJ v19 1 fun v20 =>
qX h8 v20 fun v21 =>
qq .add v21 (iI 0) fun v22 =>
qG c (.fn 168 [] []) [s7.2.2.2.1, v22, (iI 0)] h8 fun _ h24 =>
qF s7.2.1 fun v25 =>
qJ v25 1 fun v26 =>
qX h24 v26 fun v27 =>
qq .add v27 (iI 1) fun v28 =>
qG c (.fn 168 [] []) [s7.2.2.2.1, v28, (iI 2)] h24 fun _ h30 =>
qF s7.2.1 fun v31 =>
qJ v31 1 fun v32 =>
qX h30 v32 fun v33 =>
qq .add v33 (iI 2) fun v34 =>
qF s7.2.1 fun v35 =>
qJ v35 3 fun v36 =>
qX h30 v36 fun v37 =>
qG c (.fn 168 [] []) [s7.2.2.2.1, v34, v37] h30 fun _ h39 =>
qF s7.2.1 fun v40 =>
qJ v40 1 fun v41 =>
qX h39 v41 fun v42 =>
qG c (.fn 168 [] []) [s7.2.2.2.1, s7.2.2.1, v42] h39 fun _ h44 =>
qT d9 h44 fun h45 =>
some (s7.2.1, h45))) ((iI 0), v5, a1, a0, ()) h6 []
def W175 : WF := w_2 S175
theorem W175_ok : WOk Tryz.prog 175 W175 := jC (pl := P175) fun _ _ _ _ => by kernel_rfl
def P176 : Pl := (.n none .z (.n none (.r [[4, 1, 0]]) (.n none (.n none (.n (some [4, 1, 0]) (.n none .z (.n none (.n none .z (.n none (.n none (.r [[39, 30, 5, 4, 1, 0]]) .z) .z)) .z)) .z) .z) .z)))
def S176 (c : CV) (a0 a1 : AV) (h : AH) : R :=
qE (α := u3_0 → AH → R) (fun s0 h1 =>
zJ (σ := u3_0) NN (fun i6 s3 h4 d5 =>
qF s3.2.2.1 fun v7 =>
qJ v7 0 fun v8 =>
qX h4 v8 fun v9 =>
qG c (.fn 224 [] []) [v9] h4 fun v10 h11 =>
qz v10 (
qF s3.2.2.1 fun v12 =>
qJ v12 0 fun v13 =>
qX h11 v13 fun v14 =>
qG c (.fn 225 [] []) [v14, s3.1] h11 fun v15 h16 =>
qq .eql v15 (iI 0) fun v17 =>
qE (α := u6_0 → AH → R) (fun s18 h19 =>
qn s18.2.1 (.bool true) s18.1 fun v21 =>
qz v21 (
qT d5 h19 fun h22 =>
some ((.tup [s18.2.2.2.1, s18.2.2.1]), h22)) (
qq .add s18.2.2.1 (iI 2) fun v23 =>
i6 (v23, s18.2.2.2.2.1, s18.2.2.2.2.2.1, ()) h19 d5)) fun j20 =>
qi v17 false (
qF s3.2.2.1 fun v24 =>
qJ v24 0 fun v25 =>
qX h16 v25 fun v26 =>
qq .add v15 (iI 0) fun v27 =>
qG c (.fn 170 [] []) [v26, v27] h16 fun v28 h29 =>
qq .eql v28 s3.2.1 fun v30 =>
j20 (v30, v17, v15, s3.1, s3.2.1, s3.2.2.1, ()) h29) (
j20 (.undef, v17, v15, s3.1, s3.2.1, s3.2.2.1, ()) h16)) (
qT d5 h11 fun h31 =>
some ((.tup [s3.1, (iI 0)]), h31))) (s0.1, s0.2.1, s0.2.2.1, ()) h1 []) fun j2 =>
qF a0 fun v32 =>
qJ v32 3 fun v33 =>
qX h v33 fun v34 =>
qF a0 fun v35 =>
qJ v35 2 fun v36 =>
qX h v36 fun v37 =>
qG c (.fn 227 [] []) [a1, v37] h fun v38 h39 =>
qq .add v34 v38 fun v40 =>
zx v33 none v34 h h39 h.nx <|
j2 (v40, a1, a0, ()) h39
def W176 : WF := w_2 S176
theorem W176_ok : WOk Tryz.prog 176 W176 := jC (pl := P176) fun _ _ _ _ => by kernel_rfl
def P177 : Pl := (.n none .z (.n none .z (.n none .z (.n none .z (.n none .z (.n none (.n none .z (.n none (.n (some [25, 24, 23, 4, 2, 1]) .z .z) .z)) (.n none .z (.n none (.r [[4, 2, 1]]) .z))))))))
def S177 (c : CV) (a0 : AV) (h : AH) : R :=
jX h 232 a0 fun v0 h1 =>
qX h1 v0 fun v2 =>
qF v2 fun v3 =>
qJ v3 2 fun v4 =>
qX h1 v4 fun v5 =>
qq .mul (iI 2) v5 fun v6 =>
jX h1 3 (iI 0) fun v7 h8 =>
qy h8 v7 v6 1 fun h9 =>
qX h9 v7 fun v10 =>
y8 h9 3 [(iI 0)] v10 v10 fun v11 h12 =>
jX h12 59 .nils fun v13 h14 =>
qy h14 v13 v11 1 fun h15 =>
qX h15 v0 fun v16 =>
qF v16 fun v17 =>
qJ v17 0 fun v18 =>
qX h15 v18 fun v19 =>
qX h15 v7 fun v20 =>
qG c (.fn 166 [] []) [v19, v20] h15 fun v21 h22 =>
qX h22 v0 fun v23 =>
qG c (.fn 228 [] []) [v23, (.fn 229 [] [v0, v7, v13])] h22 fun _ h25 =>
qX h25 v13 fun v26 =>
q9 v26 fun v27 =>
zJ (σ := u6_0) NN (fun i31 s28 h29 d30 =>
qq .lss s28.1 s28.2.1 fun v32 =>
qz v32 (
jz s28.2.2.1 s28.1 1 fun v33 =>
qX h29 v33 fun v34 =>
qX h29 s28.2.2.2.2.2.1 fun v35 =>
qF v35 fun v36 =>
qJ v36 0 fun v37 =>
qX h29 v37 fun v38 =>
qq .add s28.2.2.2.1 s28.1 fun v39 =>
qG c (.fn 168 [] []) [v38, v39, v34] h29 fun _ h41 =>
qq .add s28.1 (iI 1) fun v42 =>
i31 (v42, s28.2.1, s28.2.2.1, s28.2.2.2.1, s28.2.2.2.2.1, s28.2.2.2.2.2.1, ()) h41 d30) (
qX h29 s28.2.2.2.2.2.1 fun v43 =>
qF v43 fun v44 =>
qJ v44 0 fun v45 =>
qX h29 v45 fun v46 =>
qX h29 s28.2.2.2.2.2.1 fun v47 =>
qF v47 fun v48 =>
qJ v48 3 fun v49 =>
qX h29 v49 fun v50 =>
qG c (.fn 171 [] []) [v46, v50] h29 fun _ h52 =>
qE (α := u3_0 → AH → R) (fun s53 h54 =>
qX h54 s53.2.2.1 fun v56 =>
qF v56 fun v57 =>
qJ v57 0 fun v58 =>
qX h54 v58 fun v59 =>
qX h54 s53.2.2.1 fun v60 =>
qF v60 fun v61 =>
qJ v61 1 fun v62 =>
qX h54 v62 fun v63 =>
qq .add v63 (iI 1) fun v64 =>
qX h54 s53.2.1 fun v65 =>
qG c (.fn 168 [] []) [v59, v64, v65] h54 fun _ h67 =>
qX h67 s53.2.2.1 fun v68 =>
qF v68 fun v69 =>
qJ v69 0 fun v70 =>
qX h67 v70 fun v71 =>
qX h67 s53.2.2.1 fun v72 =>
qF v72 fun v73 =>
qJ v73 1 fun v74 =>
qX h67 v74 fun v75 =>
qq .add v75 (iI 2) fun v76 =>
qG c (.fn 168 [] []) [v71, v76, s53.1] h67 fun _ h78 =>
qT d30 h78 fun h79 =>
some ((.tup []), h79)) fun j55 =>
qX h52 s28.2.2.2.2.2.1 fun v80 =>
qX h52 s28.2.2.2.2.2.1 fun v81 =>
qX h52 s28.2.2.2.2.1 fun v82 =>
qF v80 fun v83 =>
qJ v83 2 fun v84 =>
qy h52 v84 v82 1 fun h85 =>
qF v81 fun v86 =>
qJ v86 3 fun v87 =>
qy h85 v87 s28.2.2.2.1 1 fun h88 =>
zx s28.2.2.2.2.2.1 none v81 h52 h85 h52.nx <|
j55 (s28.2.2.2.1, s28.2.2.2.2.1, s28.2.2.2.2.2.1, ()) h88)) ((iI 0), v27, v26, v21, v7, v0, ()) h25 []
def W177 : WF := w_1 S177
theorem W177_ok : WOk Tryz.prog 177 W177 := jk (pl := P177) fun _ _ _ => by kernel_rfl
def P178 : Pl := (.n none .z (.n none .z (.n none (.n none (.r [[20, 13, 4, 3, 1, 0], [25, 22, 4, 3, 0], [31, 25, 22, 4, 3, 0], [32, 22, 4, 3, 0]]) .z) .z)))
def S178 (c : CV) (a0 a1 a2 a3 a4 : AV) (h : AH) : R :=
qq .neq a2 (iI 0) fun v0 =>
qz v0 (
some (a2, h)) (
qE (α := u6_0 → AH → R) (fun s1 h2 =>
qn s1.2.1 s1.1 (.bool false) fun v4 =>
qE (α := u5_0 → AH → R) (fun s5 h6 =>
qE (α := u6_0 → AH → R) (fun s8 h9 =>
qE (α := u5_0 → AH → R) (fun s11 h12 =>
qn s11.2.1 (.bool true) s11.1 fun v14 =>
qz v14 (
some ((iI 5), h12)) (
qX h12 s11.2.2.2.1 fun v15 =>
qJ s11.2.2.1 3 fun v16 =>
qX h12 v16 fun v17 =>
qF v15 fun v18 =>
qJ v18 6 fun v19 =>
yU v19 v17 8 1 fun v20 =>
qy h12 v20 s11.2.2.2.2.1 1 fun h21 =>
some ((iI 0), h21))) fun j13 =>
qi s8.2.2.1 false (
qn s8.2.1 s8.1 (.bool false) fun v22 =>
j13 (v22, s8.2.2.1, s8.2.2.2.1, s8.2.2.2.2.1, s8.2.2.2.2.2.1, ()) h9) (
j13 (.undef, s8.2.2.1, s8.2.2.2.1, s8.2.2.2.2.1, s8.2.2.2.2.2.1, ()) h9)) fun j10 =>
qi s5.1 true (
qX h6 s5.2.2.2.1 fun v23 =>
qF v23 fun v24 =>
qJ v24 14 fun v25 =>
qX h6 v25 fun v26 =>
qG c (.fn 179 [] []) [v26] h6 fun v27 h28 =>
pUn .not v27 fun v29 =>
j10 (v29, s5.1, s5.2.1, s5.2.2.1, s5.2.2.2.1, s5.2.2.2.2.1, ()) h28) (
j10 (.undef, s5.1, s5.2.1, s5.2.2.1, s5.2.2.2.1, s5.2.2.2.2.1, ()) h6)) fun j7 =>
qi v4 false (
pUn .not s1.2.2.2.2.1 fun v30 =>
j7 (v30, v4, s1.2.2.1, s1.2.2.2.1, s1.2.2.2.2.2.1, ()) h2) (
j7 (.undef, v4, s1.2.2.1, s1.2.2.2.1, s1.2.2.2.2.2.1, ()) h2)) fun j3 =>
qi a1 true (
qX h a3 fun v31 =>
qF v31 fun v32 =>
qJ v32 14 fun v33 =>
qX h v33 fun v34 =>
qG c (.fn 84 [] []) [v34, a0] h fun v35 h36 =>
pUn .not v35 fun v37 =>
j3 (v37, a1, a4, a3, a1, a0, ()) h36) (
j3 (.undef, a1, a4, a3, a1, a0, ()) h))
def W178 : WF := w_5 S178
theorem W178_ok : WOk Tryz.prog 178 W178 := kQ (pl := P178) fun _ _ _ _ _ _ _ => by kernel_rfl
def P179 : Pl := .z
def S179 (c : CV) (a0 : AV) (h : AH) : R :=
qm [] [] fun v0 =>
qG c (.fn 112 [] []) [a0, (.iface 263 v0)] h fun v1 h2 =>
some (v1, h2)
def W179 : WF := w_1 S179
theorem W179_ok : WOk Tryz.prog 179 W179 := jk (pl := P179) fun _ _ _ => by kernel_rfl
def P180 : Pl := (.n none .z (.n none (.n none (.r [[20, 15, 6, 4, 3, 2, 0]]) .z) .z))
def S180 (c : CV) (a0 a1 a2 a3 a4 : AV) (h : AH) : R :=
qX h a1 fun v0 =>
qG c (.fn 174 [] []) [a0, v0] h fun v1 h2 =>
qG c (.fn 164 [] []) [a0] h2 fun v3 h4 =>
pUn .not v3 fun v5 =>
qE (α := u7_0 → AH → R) (fun s6 h7 =>
qn s6.2.1 (.bool true) s6.1 fun v9 =>
qz v9 (
some ((.tup []), h7)) (
qX h7 s6.2.2.2.2.2.1 fun v10 =>
qG c (.fn 176 [] []) [s6.2.2.1, v10] h7 fun v11 h12 =>
qD v11 0 fun _ =>
qD v11 1 fun v14 =>
qq .neq v14 (iI 0) fun v15 =>
qz v15 (
qq .add v14 (iI 1) fun v16 =>
qG c (.fn 170 [] []) [s6.2.2.2.2.2.2.1, v16] h12 fun v17 h18 =>
qy h18 s6.2.2.2.2.1 v17 1 fun h19 =>
qy h19 s6.2.2.2.1 (.bool true) 1 fun h20 =>
some ((.tup []), h20)) (
some ((.tup []), h12)))) fun j8 =>
qi v5 false (
qF v1 fun v21 =>
qJ v21 1 fun v22 =>
qX h4 v22 fun v23 =>
qq .eql v23 (iI 0) fun v24 =>
j8 (v24, v5, v1, a4, a3, a2, a0, ()) h4) (
j8 (.undef, v5, v1, a4, a3, a2, a0, ()) h4)
def W180 : WF := w_5 S180
theorem W180_ok : WOk Tryz.prog 180 W180 := kQ (pl := P180) fun _ _ _ _ _ _ _ => by kernel_rfl
def P181 : Pl := (.n none .z (.n none (.n none (.r [[19, 14, 5, 3, 2, 0]]) .z) .z))
def S181 (c : CV) (a0 a1 a2 a3 : AV) (h : AH) : R :=
qX h a1 fun v0 =>
qG c (.fn 174 [] []) [a0, v0] h fun v1 h2 =>
qG c (.fn 164 [] []) [a0] h2 fun v3 h4 =>
pUn .not v3 fun v5 =>
qE (α := u6_0 → AH → R) (fun s6 h7 =>
qn s6.2.1 (.bool true) s6.1 fun v9 =>
qz v9 (
some ((.tup []), h7)) (
qX h7 s6.2.2.2.2.1 fun v10 =>
qG c (.fn 176 [] []) [s6.2.2.1, v10] h7 fun v11 h12 =>
qD v11 0 fun v13 =>
qD v11 1 fun v14 =>
qq .neq v14 (iI 0) fun v15 =>
qz v15 (
qq .add v14 (iI 2) fun v16 =>
qG c (.fn 170 [] []) [s6.2.2.2.2.2.1, v16] h12 fun v17 h18 =>
qG c (.fn 167 [] []) [s6.2.2.2.2.2.1, v13, v17] h18 fun _ h20 =>
qF s6.2.2.1 fun v21 =>
qJ v21 1 fun v22 =>
qX h20 v22 fun v23 =>
qq .add v23 (iI 0) fun v24 =>
qF s6.2.2.1 fun v25 =>
qJ v25 4 fun v26 =>
qX h20 v26 fun v27 =>
qq .sub v27 (uU 1) fun v28 =>
qG c (.fn 167 [] []) [s6.2.2.2.2.2.1, v24, v28] h20 fun _ h30 =>
qG c (.fn 171 [] []) [s6.2.2.2.2.2.1, v14] h30 fun _ h32 =>
qy h32 s6.2.2.2.1 (.bool true) 1 fun h33 =>
some ((.tup []), h33)) (
some ((.tup []), h12)))) fun j8 =>
qi v5 false (
qF v1 fun v34 =>
qJ v34 1 fun v35 =>
qX h4 v35 fun v36 =>
qq .eql v36 (iI 0) fun v37 =>
j8 (v37, v5, v1, a3, a2, a0, ()) h4) (
j8 (.undef, v5, v1, a3, a2, a0, ()) h4)
def W181 : WF := w_4 S181
theorem W181_ok : WOk Tryz.prog 181 W181 := yl (pl := P181) fun _ _ _ _ _ _ => by kernel_rfl
def P182 : Pl := .z
def S182 (c : CV) (a0 a1 a2 : AV) (h : AH) : R :=
jX h 3 a1 fun v0 h1 =>
jX h1 26 a2 fun v2 h3 =>
qX h3 v0 fun v4 =>
qG c (.fn 161 [] []) [a0, v4, (.fn 230 [] [v0, v2])] h3 fun v5 h6 =>
some (v5, h6)
def W182 : WF := w_3 S182
theorem W182_ok : WOk Tryz.prog 182 W182 := zZ (pl := P182) fun _ _ _ _ _ => by kernel_rfl
def P183 : Pl := .z
def S183 (c : CV) (a0 a1 : AV) (h : AH) : R :=
jX h 3 a1 fun v0 h1 =>
jX h1 26 (uU 0) fun v2 h3 =>
jX h3 4 (.bool false) fun v4 h5 =>
qy h5 v2 (uU 0) 1 fun h6 =>
qy h6 v4 (.bool false) 1 fun h7 =>
qX h7 v0 fun v8 =>
qG c (.fn 161 [] []) [a0, v8, (.fn 231 [] [v0, v2, v4])] h7 fun v9 h10 =>
qq .neq v9 (iI 0) fun v11 =>
qz v11 (
some ((.tup [(uU 0), (.bool false), v9]), h10)) (
qX h10 v2 fun v12 =>
qX h10 v4 fun v13 =>
some ((.tup [v12, v13, (iI 0)]), h10))
def W183 : WF := w_2 S183
theorem W183_ok : WOk Tryz.prog 183 W183 := jC (pl := P183) fun _ _ _ _ => by kernel_rfl
def P184 : Pl := .z
def S184 (c : CV) (a0 a1 a2 a3 a4 : AV) (h : AH) : R :=
qX h a1 fun v0 =>
qm [.nilp, (iI 0), .nils] [(0, 1, a0), (1, 1, v0)] fun v1 =>
jX h 242 v1 fun v2 h3 =>
qX h3 a2 fun v4 =>
qG c (.fn 185 [] []) [v2, v4] h3 fun v5 h6 =>
qG c (.fn 164 [] []) [a0] h6 fun v7 h8 =>
pUn .not v7 fun v9 =>
qz v9 (
some ((.tup []), h8)) (
qq .neq v5 (iI 0) fun v10 =>
qz v10 (
qq .add v5 (iI 1) fun v11 =>
qX h8 a3 fun v12 =>
qG c (.fn 167 [] []) [a0, v11, v12] h8 fun _ h14 =>
some ((.tup []), h14)) (
qG c (.fn 166 [] []) [a0, (iI 4)] h8 fun v15 h16 =>
qq .add v15 (iI 0) fun v17 =>
qX h16 a2 fun v18 =>
qG c (.fn 167 [] []) [a0, v17, v18] h16 fun _ h20 =>
qq .add v15 (iI 1) fun v21 =>
qX h20 a3 fun v22 =>
qG c (.fn 167 [] []) [a0, v21, v22] h20 fun _ h24 =>
qq .add v15 (iI 2) fun v25 =>
qG c (.fn 167 [] []) [a0, v25, (uU 1)] h24 fun _ h27 =>
qq .add v15 (iI 3) fun v28 =>
qG c (.fn 168 [] []) [a0, v28, (iI 0)] h27 fun _ h30 =>
qF v2 fun v31 =>
qJ v31 2 fun v32 =>
qX h30 v32 fun v33 =>
q9 v33 fun v34 =>
qG c (.fn 186 [] []) [v2, v34, v15] h30 fun _ h36 =>
qG c (.fn 187 [] []) [v2] h36 fun _ h38 =>
qy h38 a4 (.bool true) 1 fun h39 =>
some ((.tup []), h39)))
def W184 : WF := w_5 S184
theorem W184_ok : WOk Tryz.prog 184 W184 := kQ (pl := P184) fun _ _ _ _ _ _ _ => by kernel_rfl
def P185 : Pl := (.n none .z (.n none .z (.n none (.n none .z (.n none (.n (some [5, 1, 0]) (.n none (.n none (.r [[20, 15, 5, 1, 0]]) .z) (.n none (.n none .z (.n none .z (.n none .z (.n (some [7, 5, 1, 0]) .z .z)))) .z)) .z) .z)) .z)))
def S185 (c : CV) (a0 a1 : AV) (h : AH) : R :=
qF a0 fun v0 =>
qJ v0 2 fun v1 =>
qy h v1 .nils 1 fun h2 =>
qG c (.fn 193 [] []) [a0] h2 fun v3 h4 =>
zJ (σ := u3_0) NN (fun i8 s5 h6 d7 =>
qq .neq s5.1 (iI 0) fun v9 =>
qE (α := u5_0 → AH → R) (fun s10 h11 =>
qn s10.2.1 s10.1 (.bool false) fun v13 =>
qz v13 (
qF s10.2.2.2.2.1 fun v14 =>
qJ v14 0 fun v15 =>
qX h11 v15 fun v16 =>
qq .add s10.2.2.1 (iI 0) fun v17 =>
qG c (.fn 170 [] []) [v16, v17] h11 fun v18 h19 =>
qq .eql v18 s10.2.2.2.1 fun v20 =>
qz v20 (
qT d7 h19 fun h21 =>
some (s10.2.2.1, h21)) (
qE (α := u4_0 → AH → List Nat → R) (fun s22 h23 d24 =>
qF s22.2.2.2.1 fun v26 =>
qJ v26 2 fun v27 =>
qX h23 v27 fun v28 =>
qm [(iI 0), (iI 0)] [(0, 1, s22.2.1), (1, 1, s22.1)] fun v29 =>
qp h23 265 [(iI 0), (iI 0)] 1 [(0, 2, v29)] fun v30 h31 =>
q8 h31 265 2 v28 v30 fun v32 h33 =>
qF s22.2.2.2.1 fun v34 =>
qJ v34 2 fun v35 =>
qy h33 v35 v32 1 fun h36 =>
qG c (.fn 232 [] []) [s22.2.2.2.1, s22.2.1, s22.1] h36 fun v37 h38 =>
i8 (v37, s22.2.2.1, s22.2.2.2.1, ()) h38 d24) fun j25 =>
qq .gtr s10.2.2.2.1 v18 fun v39 =>
qz v39 (
j25 ((iI 1), s10.2.2.1, s10.2.2.2.1, s10.2.2.2.2.1, ()) h19 d7) (
j25 ((iI 0), s10.2.2.1, s10.2.2.2.1, s10.2.2.2.2.1, ()) h19 d7))) (
qT d7 h11 fun h40 =>
some ((iI 0), h40))) fun j12 =>
qi v9 true (
qF s5.2.2.1 fun v41 =>
qJ v41 0 fun v42 =>
qX h6 v42 fun v43 =>
qG c (.fn 224 [] []) [v43] h6 fun v44 h45 =>
j12 (v44, v9, s5.1, s5.2.1, s5.2.2.1, ()) h45) (
j12 (.undef, v9, s5.1, s5.2.1, s5.2.2.1, ()) h6)) (v3, a1, a0, ()) h4 []
def W185 : WF := w_2 S185
theorem W185_ok : WOk Tryz.prog 185 W185 := jC (pl := P185) fun _ _ _ _ => by kernel_rfl
def P186 : Pl := .z
def S186 (c : CV) (a0 a1 a2 : AV) (h : AH) : R :=
qq .eql a1 (iI 0) fun v0 =>
qz v0 (
qF a0 fun v1 =>
qJ v1 0 fun v2 =>
qX h v2 fun v3 =>
qF a0 fun v4 =>
qJ v4 1 fun v5 =>
qX h v5 fun v6 =>
qG c (.fn 168 [] []) [v3, v6, a2] h fun _ h8 =>
some ((.tup []), h8)) (
qF a0 fun v9 =>
qJ v9 2 fun v10 =>
qX h v10 fun v11 =>
qq .sub a1 (iI 1) fun v12 =>
jz v11 v12 2 fun v13 =>
qJ v13 0 fun v14 =>
qX h v14 fun v15 =>
qF a0 fun v16 =>
qJ v16 2 fun v17 =>
qX h v17 fun v18 =>
qq .sub a1 (iI 1) fun v19 =>
jz v18 v19 2 fun v20 =>
qJ v20 1 fun v21 =>
qX h v21 fun v22 =>
qG c (.fn 233 [] []) [a0, v15, v22, a2] h fun _ h24 =>
some ((.tup []), h24))
def W186 : WF := w_3 S186
theorem W186_ok : WOk Tryz.prog 186 W186 := zZ (pl := P186) fun _ _ _ _ _ => by kernel_rfl
def P187 : Pl := (.n none (.n none (.n (some [0]) (.n none (.n none (.r [[17, 12, 0]]) .z) (.n none (.n none .z (.n none (.r [[4, 3, 2, 0]]) .z)) .z)) .z) .z) (.n none (.r [[92, 87, 0]]) .z))
def S187 (c : CV) (a0 : AV) (h : AH) : R :=
zJ (σ := AV × Unit) NN (fun i3 s0 h1 d2 =>
qF s0.1 fun v4 =>
qJ v4 2 fun v5 =>
qX h1 v5 fun v6 =>
q9 v6 fun v7 =>
qq .geq v7 (iI 2) fun v8 =>
qE (α := u3_0 → AH → R) (fun s9 h10 =>
qn s9.2.1 s9.1 (.bool false) fun v12 =>
qz v12 (
qF s9.2.2.1 fun v13 =>
qJ v13 2 fun v14 =>
qX h10 v14 fun v15 =>
q9 v15 fun v16 =>
qE (α := u4_0 → AH → R) (fun s17 h18 =>
qJ s17.2.1 0 fun v20 =>
qX h18 v20 fun v21 =>
qG c (.fn 234 [] []) [s17.2.2.2.1, v21] h18 fun v22 h23 =>
pUn .not v22 fun v24 =>
qz v24 (
qT d2 h23 fun h25 =>
some ((.tup []), h25)) (
qJ s17.1 0 fun v26 =>
qX h23 v26 fun v27 =>
qJ s17.1 1 fun v28 =>
qX h23 v28 fun v29 =>
qq .sub (iI 1) v29 fun v30 =>
qG c (.fn 232 [] []) [s17.2.2.2.1, v27, v30] h23 fun v31 h32 =>
qG c (.fn 234 [] []) [s17.2.2.2.1, v31] h32 fun v33 h34 =>
pUn .not v33 fun v35 =>
qz v35 (
qR h34 s17.2.1 2 fun v36 =>
qR h34 s17.1 2 fun v37 =>
qG c (.fn 235 [] []) [s17.2.2.2.1, v36, v37] h34 fun _ h39 =>
qT d2 h39 fun h40 =>
some ((.tup []), h40)) (
qJ s17.2.1 0 fun v41 =>
qX h34 v41 fun v42 =>
qG c (.fn 236 [] []) [s17.2.2.2.1, v42, (.bool false)] h34 fun _ h44 =>
qG c (.fn 236 [] []) [s17.2.2.2.1, v31, (.bool false)] h44 fun _ h46 =>
qJ s17.1 0 fun v47 =>
qX h46 v47 fun v48 =>
qG c (.fn 236 [] []) [s17.2.2.2.1, v48, (.bool true)] h46 fun _ h50 =>
qF s17.2.2.2.1 fun v51 =>
qJ v51 2 fun v52 =>
qX h50 v52 fun v53 =>
qq .sub s17.2.2.1 (iI 2) fun v54 =>
zi h50 265 2 v53 none (some v54) fun v55 =>
qF s17.2.2.2.1 fun v56 =>
qJ v56 2 fun v57 =>
qy h50 v57 v55 1 fun h58 =>
i3 (s17.2.2.2.1, ()) h58 d2))) fun j19 =>
qF s9.2.2.1 fun v59 =>
qJ v59 2 fun v60 =>
qX h10 v60 fun v61 =>
qq .sub v16 (iI 1) fun v62 =>
jz v61 v62 2 fun v63 =>
qR h10 v63 2 fun v64 =>
qF s9.2.2.1 fun v65 =>
qJ v65 2 fun v66 =>
qX h10 v66 fun v67 =>
qq .sub v16 (iI 2) fun v68 =>
jz v67 v68 2 fun v69 =>
qR h10 v69 2 fun v70 =>
jX h10 265 (.agg [(iI 0), (iI 0)]) fun v71 h72 =>
jX h72 265 (.agg [(iI 0), (iI 0)]) fun v73 h74 =>
qy h74 v71 v64 2 fun h75 =>
qy h75 v73 v70 2 fun h76 =>
zx v69 (some 2) v70 h74 h75 h10.nx <|
zx v66 none v67 h74 h75 h10.nx <|
j19 (v73, v71, v16, s9.2.2.1, ()) h76) (
qF s9.2.2.1 fun v77 =>
qJ v77 2 fun v78 =>
qX h10 v78 fun v79 =>
q9 v79 fun v80 =>
qq .lss v80 (iI 2) fun v81 =>
qE (α := u3_0 → AH → R) (fun s82 h83 =>
qn s82.2.1 s82.1 (.bool false) fun v85 =>
qz v85 (
qG c (.fn 193 [] []) [s82.2.2.1] h83 fun v86 h87 =>
qG c (.fn 236 [] []) [s82.2.2.1, v86, (.bool false)] h87 fun _ h89 =>
qT d2 h89 fun h90 =>
some ((.tup []), h90)) (
qT d2 h83 fun h91 =>
some ((.tup []), h91))) fun j84 =>
qi v81 true (
qF s9.2.2.1 fun v92 =>
qJ v92 0 fun v93 =>
qX h10 v93 fun v94 =>
qG c (.fn 164 [] []) [v94] h10 fun v95 h96 =>
j84 (v95, v81, s9.2.2.1, ()) h96) (
j84 (.undef, v81, s9.2.2.1, ()) h10))) fun j11 =>
qi v8 true (
qF s0.1 fun v97 =>
qJ v97 0 fun v98 =>
qX h1 v98 fun v99 =>
qG c (.fn 224 [] []) [v99] h1 fun v100 h101 =>
j11 (v100, v8, s0.1, ()) h101) (
j11 (.undef, v8, s0.1, ()) h1)) (a0, ()) h []
def W187 : WF := w_1 S187
theorem W187_ok : WOk Tryz.prog 187 W187 := jk (pl := P187) fun _ _ _ => by kernel_rfl
def P188 : Pl := .z
def S188 (c : CV) (a0 a1 a2 a3 a4 : AV) (h : AH) : R :=
qX h a1 fun v0 =>
qm [.nilp, (iI 0), .nils] [(0, 1, a0), (1, 1, v0)] fun v1 =>
jX h 242 v1 fun v2 h3 =>
qX h3 a2 fun v4 =>
qG c (.fn 185 [] []) [v2, v4] h3 fun v5 h6 =>
qq .neq v5 (iI 0) fun v7 =>
qz v7 (
qq .add v5 (iI 1) fun v8 =>
qG c (.fn 170 [] []) [a0, v8] h6 fun v9 h10 =>
qy h10 a3 v9 1 fun h11 =>
qy h11 a4 (.bool true) 1 fun h12 =>
some ((.tup []), h12)) (
some ((.tup []), h6))
def W188 : WF := w_5 S188
theorem W188_ok : WOk Tryz.prog 188 W188 := kQ (pl := P188) fun _ _ _ _ _ _ _ => by kernel_rfl
def P189 : Pl := (.n none .z (.n none .z (.n none (.r [[18, 16, 6, 5, 3]]) .z)))
def S189 (c : CV) (a0 a1 a2 a3 : AV) (h : AH) : R :=
qX h a1 fun v0 =>
qm [.nilp, (iI 0), .nils] [(0, 1, a0), (1, 1, v0)] fun v1 =>
jX h 242 v1 fun v2 h3 =>
qX h3 a2 fun v4 =>
qG c (.fn 185 [] []) [v2, v4] h3 fun v5 h6 =>
qq .neq v5 (iI 0) fun v7 =>
qE (α := u5_0 → AH → R) (fun s8 h9 =>
qn s8.2.1 s8.1 (.bool false) fun v11 =>
qz v11 (
qG c (.fn 190 [] []) [s8.2.2.2.1, s8.2.2.1] h9 fun _ h13 =>
qy h13 s8.2.2.2.2.1 (.bool true) 1 fun h14 =>
some ((.tup []), h14)) (
some ((.tup []), h9))) fun j10 =>
qi v7 true (
qG c (.fn 164 [] []) [a0] h6 fun v15 h16 =>
j10 (v15, v7, v5, v2, a3, ()) h16) (
j10 (.undef, v7, v5, v2, a3, ()) h6)
def W189 : WF := w_4 S189
theorem W189_ok : WOk Tryz.prog 189 W189 := yl (pl := P189) fun _ _ _ _ _ _ => by kernel_rfl
def P190 : Pl := (.n (some [1, 0]) (.n none (.r [[15, 11, 1, 0]]) (.n none (.n none .z (.n none (.r [[4, 1, 0]]) (.n none (.r [[4, 0]]) .z))) .z)) (.n none .z (.n (some [5, 1, 0]) .z (.n none .z (.n none .z (.n none (.n (some [1, 0]) .z .z) .z))))))
def S190 (c : CV) (a0 a1 : AV) (h : AH) : R :=
qE (α := u2_0 → AH → List Nat → R) (fun s0 h1 d2 =>
qG c (.fn 232 [] []) [s0.2.1, s0.1, (iI 0)] h1 fun v4 h5 =>
qE (α := u3_0 → AH → List Nat → R) (fun s6 h7 d8 =>
qG c (.fn 234 [] []) [s6.2.2.1, s6.2.1] h7 fun v10 h11 =>
qF s6.2.2.1 fun v12 =>
qJ v12 2 fun v13 =>
qX h11 v13 fun v14 =>
q9 v14 fun v15 =>
qG c (.fn 186 [] []) [s6.2.2.1, v15, s6.1] h11 fun _ h17 =>
qE (α := u2_0 → AH → List Nat → R) (fun s18 h19 d20 =>
qF s18.2.1 fun v22 =>
qJ v22 0 fun v23 =>
qX h19 v23 fun v24 =>
qG c (.fn 171 [] []) [v24, s18.1] h19 fun _ h26 =>
qT d20 h26 fun h27 =>
some ((.tup []), h27)) fun j21 =>
qz v10 (
j21 (s6.2.1, s6.2.2.1, ()) h17 d8) (
qG c (.fn 234 [] []) [s6.2.2.1, s6.1] h17 fun v28 h29 =>
qz v28 (
qG c (.fn 236 [] []) [s6.2.2.1, s6.1, (.bool false)] h29 fun _ h31 =>
j21 (s6.2.1, s6.2.2.1, ()) h31 d8) (
qG c (.fn 238 [] []) [s6.2.2.1] h29 fun _ h33 =>
j21 (s6.2.1, s6.2.2.1, ()) h33 d8))) fun j9 =>
qq .eql v4 (iI 0) fun v34 =>
qz v34 (
qG c (.fn 232 [] []) [s0.2.1, s0.1, (iI 1)] h5 fun v35 h36 =>
j9 (v35, s0.1, s0.2.1, ()) h36 d2) (
j9 (v4, s0.1, s0.2.1, ()) h5 d2)) fun j3 =>
qG c (.fn 232 [] []) [a0, a1, (iI 0)] h fun v37 h38 =>
qq .neq v37 (iI 0) fun v39 =>
qE (α := u4_0 → AH → R) (fun s40 h41 =>
qn s40.2.1 s40.1 (.bool false) fun v43 =>
qz v43 (
qG c (.fn 237 [] []) [s40.2.2.2.1, s40.2.2.1] h41 fun v44 h45 =>
qE (α := u3_0 → AH → R) (fun s46 h47 =>
qE (α := u2_0 → AH → R) (fun s49 h50 =>
j3 (s49.1, s49.2.1, ()) h50 []) fun j51 =>
qF s46.2.2.1 fun v52 =>
qJ v52 0 fun v53 =>
qX h47 v53 fun v54 =>
qq .add s46.2.1 (iI 1) fun v55 =>
qF s46.2.2.1 fun v56 =>
qJ v56 0 fun v57 =>
qX h47 v57 fun v58 =>
qq .add s46.1 (iI 1) fun v59 =>
qG c (.fn 170 [] []) [v58, v59] h47 fun v60 h61 =>
qG c (.fn 167 [] []) [v54, v55, v60] h61 fun _ h63 =>
zx v53 none v54 h47 h61 h47.nx <|
j51 (s46.1, s46.2.2.1, ()) h63) fun j48 =>
qF s40.2.2.2.1 fun v64 =>
qJ v64 0 fun v65 =>
qX h45 v65 fun v66 =>
qq .add s40.2.2.1 (iI 0) fun v67 =>
qF s40.2.2.2.1 fun v68 =>
qJ v68 0 fun v69 =>
qX h45 v69 fun v70 =>
qq .add v44 (iI 0) fun v71 =>
qG c (.fn 170 [] []) [v70, v71] h45 fun v72 h73 =>
qG c (.fn 167 [] []) [v66, v67, v72] h73 fun _ h75 =>
zx v65 none v66 h45 h73 h45.nx <|
j48 (v44, s40.2.2.1, s40.2.2.2.1, ()) h75) (
j3 (s40.2.2.1, s40.2.2.2.1, ()) h41 [])) fun j42 =>
qi v39 true (
qG c (.fn 232 [] []) [a0, a1, (iI 1)] h38 fun v76 h77 =>
qq .neq v76 (iI 0) fun v78 =>
j42 (v78, v39, a1, a0, ()) h77) (
j42 (.undef, v39, a1, a0, ()) h38)
def W190 : WF := w_2 S190
theorem W190_ok : WOk Tryz.prog 190 W190 := jC (pl := P190) fun _ _ _ _ => by kernel_rfl
def P191 : Pl := (.n none .z (.r [[]]))
def S191 (c : CV) (a0 a1 a2 a3 a4 : AV) (h : AH) : R :=
qX h a1 fun v0 =>
qm [.nilp, (iI 0), .nils] [(0, 1, a0), (1, 1, v0)] fun v1 =>
jX h 242 v1 fun v2 h3 =>
qE (α := Unit → AH → R) (fun _ h5 =>
some ((.tup []), h5)) fun j6 =>
qG c (.fn 193 [] []) [v2] h3 fun v7 h8 =>
qX h8 a2 fun v9 =>
qX h8 a3 fun v10 =>
qG c (.fn 192 [] []) [v2, v7, v9, v10, .nils] h8 fun v11 h12 =>
qy h12 a4 v11 1 fun h13 =>
zx a3 none v10 h3 h8 h3.nx <|
zx a2 none v9 h3 h8 h3.nx <|
j6 (()) h13
def W191 : WF := w_5 S191
theorem W191_ok : WOk Tryz.prog 191 W191 := kQ (pl := P191) fun _ _ _ _ _ _ _ => by kernel_rfl
def P192 : Pl := (.n none .z (.n none (.n none (.r [[20, 14, 4, 3, 2, 1, 0]]) .z) (.n none .z (.n (some [11, 4, 3, 2, 1, 0]) .z (.n (some [11, 4, 3, 2, 1, 0]) (.n none (.r [[47, 44, 11, 4, 3, 2, 1, 0]]) .z) (.n (some [4]) .z .z))))))
def S192 (c : CV) (a0 a1 a2 a3 a4 : AV) (h : AH) : R :=
qq .eql a1 (iI 0) fun v0 =>
qE (α := u7_0 → AH → R) (fun s1 h2 =>
qn s1.2.1 (.bool true) s1.1 fun v4 =>
qz v4 (
some (s1.2.2.1, h2)) (
qF s1.2.2.2.2.2.2.1 fun v5 =>
qJ v5 0 fun v6 =>
qX h2 v6 fun v7 =>
qq .add s1.2.2.2.2.2.1 (iI 0) fun v8 =>
qG c (.fn 170 [] []) [v7, v8] h2 fun v9 h10 =>
qE (α := u6_0 → AH → List Nat → R) (fun s11 h12 d13 =>
qE (α := u6_0 → AH → List Nat → R) (fun s15 h16 d17 =>
qE (α := AV × Unit → AH → List Nat → R) (fun s19 h20 d21 =>
qT d21 h20 fun h23 =>
some (s19.1, h23)) fun j22 =>
qq .lss s15.1 s15.2.2.1 fun v24 =>
qz v24 (
qG c (.fn 232 [] []) [s15.2.2.2.2.2.1, s15.2.2.2.2.1, (iI 1)] h16 fun v25 h26 =>
qG c (.fn 192 [] []) [s15.2.2.2.2.2.1, v25, s15.2.2.2.1, s15.2.2.1, s15.2.1] h26 fun v27 h28 =>
j22 (v27, ()) h28 d17) (
j22 (s15.2.1, ()) h16 d17)) fun j18 =>
qq .leq s11.2.2.2.1 s11.1 fun v29 =>
qE (α := u8_0 → AH → R) (fun s30 h31 =>
qn s30.2.1 s30.1 (.bool false) fun v33 =>
qz v33 (
qF s30.2.2.2.2.2.2.2.1 fun v34 =>
qJ v34 0 fun v35 =>
qX h31 v35 fun v36 =>
qq .add s30.2.2.2.2.2.2.1 (iI 1) fun v37 =>
qG c (.fn 170 [] []) [v36, v37] h31 fun v38 h39 =>
qm [(uU 0), (uU 0)] [(0, 1, s30.2.2.1), (1, 1, v38)] fun v40 =>
qp h39 271 [(uU 0), (uU 0)] 1 [(0, 2, v40)] fun v41 h42 =>
q8 h42 271 2 s30.2.2.2.1 v41 fun v43 h44 =>
j18 (s30.2.2.1, v43, s30.2.2.2.2.1, s30.2.2.2.2.2.1, s30.2.2.2.2.2.2.1, s30.2.2.2.2.2.2.2.1, ()) h44 d13) (
j18 (s30.2.2.1, s30.2.2.2.1, s30.2.2.2.2.1, s30.2.2.2.2.2.1, s30.2.2.2.2.2.2.1, s30.2.2.2.2.2.2.2.1, ()) h31 d13)) fun j32 =>
qi v29 true (
qq .leq s11.1 s11.2.2.1 fun v45 =>
j32 (v45, v29, s11.1, s11.2.1, s11.2.2.1, s11.2.2.2.1, s11.2.2.2.2.1, s11.2.2.2.2.2.1, ()) h12) (
j32 (.undef, v29, s11.1, s11.2.1, s11.2.2.1, s11.2.2.2.1, s11.2.2.2.2.1, s11.2.2.2.2.2.1, ()) h12)) fun j14 =>
qq .lss s1.2.2.2.2.1 v9 fun v46 =>
qz v46 (
qG c (.fn 232 [] []) [s1.2.2.2.2.2.2.1, s1.2.2.2.2.2.1, (iI 0)] h10 fun v47 h48 =>
qG c (.fn 192 [] []) [s1.2.2.2.2.2.2.1, v47, s1.2.2.2.2.1, s1.2.2.2.1, s1.2.2.1] h48 fun v49 h50 =>
j14 (v9, v49, s1.2.2.2.1, s1.2.2.2.2.1, s1.2.2.2.2.2.1, s1.2.2.2.2.2.2.1, ()) h50 []) (
j14 (v9, s1.2.2.1, s1.2.2.2.1, s1.2.2.2.2.1, s1.2.2.2.2.2.1, s1.2.2.2.2.2.2.1, ()) h10 []))) fun j3 =>
qi v0 false (
qF a0 fun v51 =>
qJ v51 0 fun v52 =>
qX h v52 fun v53 =>
qG c (.fn 224 [] []) [v53] h fun v54 h55 =>
pUn .not v54 fun v56 =>
j3 (v56, v0, a4, a3, a2, a1, a0, ()) h55) (
j3 (.undef, v0, a4, a3, a2, a1, a0, ()) h)
def W192 : WF := w_5 S192
theorem W192_ok : WOk Tryz.prog 192 W192 := kQ (pl := P192) fun _ _ _ _ _ _ _ => by kernel_rfl
def P193 : Pl := .z
def S193 (c : CV) (a0 : AV) (h : AH) : R :=
qF a0 fun v0 =>
qJ v0 0 fun v1 =>
qX h v1 fun v2 =>
qF a0 fun v3 =>
qJ v3 1 fun v4 =>
qX h v4 fun v5 =>
qG c (.fn 225 [] []) [v2, v5] h fun v6 h7 =>
some (v6, h7)
def W193 : WF := w_1 S193
theorem W193_ok : WOk Tryz.prog 193 W193 := jk (pl := P193) fun _ _ _ => by kernel_rfl
def P194 : Pl := (.n none .z (.n none (.n none (.r [[14, 12, 2, 1, 0]]) .z) (.n none .z (.n none (.n none .z (.n none (.r [[32, 29, 7, 2, 1]]) .z)) .z))))
def S194 (c : CV) (a0 a1 a2 : AV) (h : AH) : R :=
qq .lss a1 (iI 1) fun v0 =>
qE (α := u5_0 → AH → R) (fun s1 h2 =>
qn s1.2.1 (.bool true) s1.1 fun v4 =>
qz v4 (
some ((iI 2), h2)) (
qG c (.fn 222 [] []) [s1.2.2.2.2.1] h2 fun v5 h6 =>
qF v5 fun v7 =>
qJ v7 0 fun v8 =>
qX h6 v8 fun v9 =>
qG c (.fn 221 [] []) [v9, s1.2.2.2.1] h6 fun v10 h11 =>
qD v10 0 fun _ =>
qD v10 1 fun v13 =>
pUn .not v13 fun v14 =>
qE (α := u5_0 → AH → R) (fun s15 h16 =>
qn s15.2.1 s15.1 (.bool false) fun v18 =>
qz v18 (
some ((iI 5), h16)) (
qG c (.fn 151 [] []) [s15.2.2.1, s15.2.2.2.2.1, s15.2.2.2.1] h16 fun v19 h20 =>
some (v19, h20))) fun j17 =>
qi v14 true (
qG c (.fn 239 [] []) [s1.2.2.2.2.1] h11 fun v21 h22 =>
qq .eql v21 (iI 0) fun v23 =>
j17 (v23, v14, v9, s1.2.2.1, s1.2.2.2.1, ()) h22) (
j17 (.undef, v14, v9, s1.2.2.1, s1.2.2.2.1, ()) h11))) fun j3 =>
qi v0 false (
qq .geq a1 (iI 256) fun v24 =>
j3 (v24, v0, a2, a1, a0, ()) h) (
j3 (.undef, v0, a2, a1, a0, ()) h)
def W194 : WF := w_3 S194
theorem W194_ok : WOk Tryz.prog 194 W194 := zZ (pl := P194) fun _ _ _ _ _ => by kernel_rfl
end
end Go.Proofs.YtdlfmpmpmkffjaaGreatDoor
