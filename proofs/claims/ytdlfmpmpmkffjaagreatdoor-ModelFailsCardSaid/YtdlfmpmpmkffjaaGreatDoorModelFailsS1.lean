/- Printed by a program of mine: the bodies of the program's functions aa terms of the primitives of the abstract executor, each shown equal by the kernel. -/
import Derived.Test.YtdlfmpmpmkffjaaGreatDoorProg
import Derived.Test.YtdlfmpmpmkffjaaGreatDoorModelFailsAe1
import Derived.KernelRfl
namespace Go.Proofs.YtdlfmpmpmkffjaaGreatDoor
open Go Go.Ae
set_option maxRecDepth 100000
noncomputable section
def P191 : Pl := (.n none .z (.r [[]]))
def S191 (c : CV) (a0 a1 a2 a3 a4 : AV) (h : AH) : R :=
qZ h a1 fun v0 =>
qm [.nilp, (iI 0), .nils] [(0, 1, a0), (1, 1, v0)] fun v1 =>
q9 h 242 v1 fun v2 h3 =>
qw (α := Unit → AH → R) (fun _ h5 =>
some ((.tup []), h5)) fun j6 =>
qW c (.fn 193 [] []) [v2] h3 fun v7 h8 =>
qZ h8 a2 fun v9 =>
qZ h8 a3 fun v10 =>
qW c (.fn 192 [] []) [v2, v7, v9, v10, .nils] h8 fun v11 h12 =>
qv h12 a4 v11 1 fun h13 =>
zQ a3 none v10 h3 h8 h3.nx <|
zQ a2 none v9 h3 h8 h3.nx <|
j6 (()) h13
theorem S191_eq (c : CV) (a0 a1 a2 a3 a4 : AV) (h : AH) : qg Tryz.prog NN P191 c 191 [a0, a1, a2, a3, a4] h = S191 c a0 a1 a2 a3 a4 h := by kernel_rfl
def W191 : WF := w_5 S191
theorem W191_ok : WOk Tryz.prog 191 W191 := gn (pl := P191) fun _ _ _ _ _ _ _ => by rw [S191_eq]
def P192 : Pl := (.n none .z (.n none (.n none (.r [[20, 14, 4, 3, 2, 1, 0]]) .z) (.n none .z (.n (some [11, 4, 3, 2, 1, 0]) .z (.n (some [11, 4, 3, 2, 1, 0]) (.n none (.r [[47, 44, 11, 4, 3, 2, 1, 0]]) .z) (.n (some [4]) .z .z))))))
def S192 (c : CV) (a0 a1 a2 a3 a4 : AV) (h : AH) : R :=
qq .eql a1 (iI 0) fun v0 =>
qw (α := AV × AV × AV × AV × AV × AV × AV × Unit → AH → R) (fun s1 h2 =>
qn s1.2.1 (.bool true) s1.1 fun v4 =>
qj v4 (
some (s1.2.2.1, h2)) (
qC s1.2.2.2.2.2.2.1 fun v5 =>
qJ v5 0 fun v6 =>
qZ h2 v6 fun v7 =>
qq .add s1.2.2.2.2.2.1 (iI 0) fun v8 =>
qW c (.fn 170 [] []) [v7, v8] h2 fun v9 h10 =>
qw (α := AV × AV × AV × AV × AV × AV × Unit → AH → List Nat → R) (fun s11 h12 d13 =>
qw (α := AV × AV × AV × AV × AV × AV × Unit → AH → List Nat → R) (fun s15 h16 d17 =>
qw (α := AV × Unit → AH → List Nat → R) (fun s19 h20 d21 =>
qP d21 h20 fun h23 =>
some (s19.1, h23)) fun j22 =>
qq .lss s15.1 s15.2.2.1 fun v24 =>
qj v24 (
qW c (.fn 232 [] []) [s15.2.2.2.2.2.1, s15.2.2.2.2.1, (iI 1)] h16 fun v25 h26 =>
qW c (.fn 192 [] []) [s15.2.2.2.2.2.1, v25, s15.2.2.2.1, s15.2.2.1, s15.2.1] h26 fun v27 h28 =>
j22 (v27, ()) h28 d17) (
j22 (s15.2.1, ()) h16 d17)) fun j18 =>
qq .leq s11.2.2.2.1 s11.1 fun v29 =>
qw (α := AV × AV × AV × AV × AV × AV × AV × AV × Unit → AH → R) (fun s30 h31 =>
qn s30.2.1 s30.1 (.bool false) fun v33 =>
qj v33 (
qC s30.2.2.2.2.2.2.2.1 fun v34 =>
qJ v34 0 fun v35 =>
qZ h31 v35 fun v36 =>
qq .add s30.2.2.2.2.2.2.1 (iI 1) fun v37 =>
qW c (.fn 170 [] []) [v36, v37] h31 fun v38 h39 =>
qm [(uU 0), (uU 0)] [(0, 1, s30.2.2.1), (1, 1, v38)] fun v40 =>
q8 h39 271 [(uU 0), (uU 0)] 1 [(0, 2, v40)] fun v41 h42 =>
jX h42 271 2 s30.2.2.2.1 v41 fun v43 h44 =>
j18 (s30.2.2.1, v43, s30.2.2.2.2.1, s30.2.2.2.2.2.1, s30.2.2.2.2.2.2.1, s30.2.2.2.2.2.2.2.1, ()) h44 d13) (
j18 (s30.2.2.1, s30.2.2.2.1, s30.2.2.2.2.1, s30.2.2.2.2.2.1, s30.2.2.2.2.2.2.1, s30.2.2.2.2.2.2.2.1, ()) h31 d13)) fun j32 =>
qe v29 true (
qq .leq s11.1 s11.2.2.1 fun v45 =>
j32 (v45, v29, s11.1, s11.2.1, s11.2.2.1, s11.2.2.2.1, s11.2.2.2.2.1, s11.2.2.2.2.2.1, ()) h12) (
j32 (.undef, v29, s11.1, s11.2.1, s11.2.2.1, s11.2.2.2.1, s11.2.2.2.2.1, s11.2.2.2.2.2.1, ()) h12)) fun j14 =>
qq .lss s1.2.2.2.2.1 v9 fun v46 =>
qj v46 (
qW c (.fn 232 [] []) [s1.2.2.2.2.2.2.1, s1.2.2.2.2.2.1, (iI 0)] h10 fun v47 h48 =>
qW c (.fn 192 [] []) [s1.2.2.2.2.2.2.1, v47, s1.2.2.2.2.1, s1.2.2.2.1, s1.2.2.1] h48 fun v49 h50 =>
j14 (v9, v49, s1.2.2.2.1, s1.2.2.2.2.1, s1.2.2.2.2.2.1, s1.2.2.2.2.2.2.1, ()) h50 []) (
j14 (v9, s1.2.2.1, s1.2.2.2.1, s1.2.2.2.2.1, s1.2.2.2.2.2.1, s1.2.2.2.2.2.2.1, ()) h10 []))) fun j3 =>
qe v0 false (
qC a0 fun v51 =>
qJ v51 0 fun v52 =>
qZ h v52 fun v53 =>
qW c (.fn 224 [] []) [v53] h fun v54 h55 =>
pUn .not v54 fun v56 =>
j3 (v56, v0, a4, a3, a2, a1, a0, ()) h55) (
j3 (.undef, v0, a4, a3, a2, a1, a0, ()) h)
theorem S192_eq (c : CV) (a0 a1 a2 a3 a4 : AV) (h : AH) : qg Tryz.prog NN P192 c 192 [a0, a1, a2, a3, a4] h = S192 c a0 a1 a2 a3 a4 h := by kernel_rfl
def W192 : WF := w_5 S192
theorem W192_ok : WOk Tryz.prog 192 W192 := gn (pl := P192) fun _ _ _ _ _ _ _ => by rw [S192_eq]
def P193 : Pl := .z
def S193 (c : CV) (a0 : AV) (h : AH) : R :=
qC a0 fun v0 =>
qJ v0 0 fun v1 =>
qZ h v1 fun v2 =>
qC a0 fun v3 =>
qJ v3 1 fun v4 =>
qZ h v4 fun v5 =>
qW c (.fn 225 [] []) [v2, v5] h fun v6 h7 =>
some (v6, h7)
theorem S193_eq (c : CV) (a0 : AV) (h : AH) : qg Tryz.prog NN P193 c 193 [a0] h = S193 c a0 h := by kernel_rfl
def W193 : WF := w_1 S193
theorem W193_ok : WOk Tryz.prog 193 W193 := jY (pl := P193) fun _ _ _ => by rw [S193_eq]
def P194 : Pl := (.n none .z (.n none (.n none (.r [[14, 12, 2, 1, 0]]) .z) (.n none .z (.n none (.n none .z (.n none (.r [[32, 29, 7, 2, 1]]) .z)) .z))))
def S194 (c : CV) (a0 a1 a2 : AV) (h : AH) : R :=
qq .lss a1 (iI 1) fun v0 =>
qw (α := AV × AV × AV × AV × AV × Unit → AH → R) (fun s1 h2 =>
qn s1.2.1 (.bool true) s1.1 fun v4 =>
qj v4 (
some ((iI 2), h2)) (
qW c (.fn 222 [] []) [s1.2.2.2.2.1] h2 fun v5 h6 =>
qC v5 fun v7 =>
qJ v7 0 fun v8 =>
qZ h6 v8 fun v9 =>
qW c (.fn 221 [] []) [v9, s1.2.2.2.1] h6 fun v10 h11 =>
qB v10 0 fun _ =>
qB v10 1 fun v13 =>
pUn .not v13 fun v14 =>
qw (α := AV × AV × AV × AV × AV × Unit → AH → R) (fun s15 h16 =>
qn s15.2.1 s15.1 (.bool false) fun v18 =>
qj v18 (
some ((iI 5), h16)) (
qW c (.fn 151 [] []) [s15.2.2.1, s15.2.2.2.2.1, s15.2.2.2.1] h16 fun v19 h20 =>
some (v19, h20))) fun j17 =>
qe v14 true (
qW c (.fn 239 [] []) [s1.2.2.2.2.1] h11 fun v21 h22 =>
qq .eql v21 (iI 0) fun v23 =>
j17 (v23, v14, v9, s1.2.2.1, s1.2.2.2.1, ()) h22) (
j17 (.undef, v14, v9, s1.2.2.1, s1.2.2.2.1, ()) h11))) fun j3 =>
qe v0 false (
qq .geq a1 (iI 256) fun v24 =>
j3 (v24, v0, a2, a1, a0, ()) h) (
j3 (.undef, v0, a2, a1, a0, ()) h)
theorem S194_eq (c : CV) (a0 a1 a2 : AV) (h : AH) : qg Tryz.prog NN P194 c 194 [a0, a1, a2] h = S194 c a0 a1 a2 h := by kernel_rfl
def W194 : WF := w_3 S194
theorem W194_ok : WOk Tryz.prog 194 W194 := jf (pl := P194) fun _ _ _ _ _ => by rw [S194_eq]
def P195 : Pl := (.n none .z (.n none .z (.n none (.n none .z (.n none (.n (some [3, 0]) .z .z) .z)) .z)))
def S195 (c : CV) (a0 : AV) (h : AH) : R :=
qq .lss a0 (iI 1) fun v0 =>
qj v0 (
some ((iI 0), h)) (
jd (σ := AV × AV × Unit) NN (fun i4 s1 h2 d3 =>
qq .leq s1.1 (iI 4) fun v5 =>
qj v5 (
qW c (.fn 240 [] []) [s1.1] h2 fun v6 h7 =>
qq .geq v6 s1.2.1 fun v8 =>
qj v8 (
qP d3 h7 fun h9 =>
some (s1.1, h9)) (
qq .add s1.1 (iI 1) fun v10 =>
i4 (v10, s1.2.1, ()) h7 d3)) (
qP d3 h2 fun h11 =>
some ((iI 0), h11))) ((iI 1), a0, ()) h [])
theorem S195_eq (c : CV) (a0 : AV) (h : AH) : qg Tryz.prog NN P195 c 195 [a0] h = S195 c a0 h := by kernel_rfl
def W195 : WF := w_1 S195
theorem W195_ok : WOk Tryz.prog 195 W195 := jY (pl := P195) fun _ _ _ => by rw [S195_eq]
def P196 : Pl := (.n none .z (.n none .z (.n none .z (.n none .z (.n (some [10, 8]) .z .z)))))
def S196 (c : CV) (a0 a1 a2 : AV) (h : AH) : R :=
qq .geq a2 (uU 2147483648) fun v0 =>
qj v0 (
some ((.tup [(iI 0), (iI 2)]), h)) (
jE .i64 a2 fun v1 =>
qW c (.fn 109 [] []) [a0, v1] h fun v2 h3 =>
qB v2 0 fun v4 =>
qB v2 1 fun v5 =>
qw (α := AV × AV × Unit → AH → List Nat → R) (fun s6 h7 d8 =>
qq .neq s6.1 (iI 0) fun v10 =>
qj v10 (
qP d8 h7 fun h11 =>
some ((.tup [(iI 0), s6.1]), h11)) (
qP d8 h7 fun h12 =>
some ((.tup [s6.2.1, (iI 0)]), h12))) fun j9 =>
qq .eql v5 (iI 0) fun v13 =>
qj v13 (
qW c (.fn 110 [] []) [a1] h3 fun v14 h15 =>
qm [(iI 0), (uU 0)] [(0, 1, v14), (1, 1, v4)] fun v16 =>
qq .sub v1 (iI 1) fun v17 =>
qq .add a1 (iI 8) fun v18 =>
jE .u64 v18 fun v19 =>
qm [(iI 0), (uU 0)] [(0, 1, v17), (1, 1, v19)] fun v20 =>
q8 h15 67 [(iI 0), (uU 0)] 2 [(0, 2, v16), (2, 2, v20)] fun v21 h22 =>
qW c (.fn 111 [] []) [a0, v21] h22 fun v23 h24 =>
j9 (v23, v1, ()) h24 []) (
j9 (v5, v1, ()) h3 []))
theorem S196_eq (c : CV) (a0 a1 a2 : AV) (h : AH) : qg Tryz.prog NN P196 c 196 [a0, a1, a2] h = S196 c a0 a1 a2 h := by kernel_rfl
def W196 : WF := w_3 S196
theorem W196_ok : WOk Tryz.prog 196 W196 := jf (pl := P196) fun _ _ _ _ _ => by rw [S196_eq]
def P197 : Pl := (.n none .z (.n none .z (.n none .z (.n none (.n none (.r [[22, 20, 6, 1, 0], [33, 24, 6, 1, 0]]) .z) .z))))
def S197 (c : CV) (a0 a1 : AV) (h : AH) : R :=
qW c (.fn 109 [] []) [a0, (iI 5)] h fun v0 h1 =>
qB v0 0 fun v2 =>
qB v0 1 fun v3 =>
qq .neq v3 (iI 0) fun v4 =>
qj v4 (
some ((.tup [(iI 0), v3]), h1)) (
qq .lss v2 (uU 14) fun v5 =>
qw (α := AV × AV × AV × AV × AV × Unit → AH → R) (fun s6 h7 =>
qn s6.2.1 (.bool true) s6.1 fun v9 =>
qw (α := AV × AV × AV × AV × AV × Unit → AH → R) (fun s10 h11 =>
qn s10.2.1 (.bool true) s10.1 fun v13 =>
qj v13 (
some ((.tup [(iI 0), (iI 4)]), h11)) (
jE .i64 s10.2.2.1 fun v14 =>
qq .add v14 (iI 1) fun v15 =>
qW c (.fn 240 [] []) [s10.2.2.2.1] h11 fun v16 h17 =>
qq .add v15 v16 fun v18 =>
jE .u64 v18 fun v19 =>
qm [(iI 0), (uU 0)] [(0, 1, (iI 5)), (1, 1, v19)] fun v20 =>
qq .add s10.2.2.2.1 (iI 8) fun v21 =>
jE .u64 v21 fun v22 =>
qm [(iI 0), (uU 0)] [(0, 1, v14), (1, 1, v22)] fun v23 =>
q8 h17 67 [(iI 0), (uU 0)] 2 [(0, 2, v20), (2, 2, v23)] fun v24 h25 =>
qW c (.fn 111 [] []) [s10.2.2.2.2.1, v24] h25 fun v26 h27 =>
qq .neq v26 (iI 0) fun v28 =>
qj v28 (
some ((.tup [(iI 0), v26]), h27)) (
qq .add v14 (iI 1) fun v29 =>
some ((.tup [v29, (iI 0)]), h27)))) fun j12 =>
qe v9 false (
jE .i64 s6.2.2.1 fun v30 =>
qq .add v30 (iI 1) fun v31 =>
qW c (.fn 240 [] []) [s6.2.2.2.1] h7 fun v32 h33 =>
qq .add v31 v32 fun v34 =>
qW c (.fn 107 [] []) [s6.2.2.2.2.1] h33 fun v35 h36 =>
qq .gtr v34 v35 fun v37 =>
j12 (v37, v9, s6.2.2.1, s6.2.2.2.1, s6.2.2.2.2.1, ()) h36) (
j12 (.undef, v9, s6.2.2.1, s6.2.2.2.1, s6.2.2.2.2.1, ()) h7)) fun j8 =>
qe v5 false (
qq .geq v2 (uU 2147483648) fun v38 =>
j8 (v38, v5, v2, a1, a0, ()) h1) (
j8 (.undef, v5, v2, a1, a0, ()) h1))
theorem S197_eq (c : CV) (a0 a1 : AV) (h : AH) : qg Tryz.prog NN P197 c 197 [a0, a1] h = S197 c a0 a1 h := by kernel_rfl
def W197 : WF := w_2 S197
theorem W197_ok : WOk Tryz.prog 197 W197 := jg (pl := P197) fun _ _ _ _ => by rw [S197_eq]
def P198 : Pl := .z
def S198 (c : CV) (a0 a1 : AV) (h : AH) : R :=
qC a0 fun v0 =>
qJ v0 2 fun v1 =>
qZ h v1 fun v2 =>
qW c (.fn 241 [] []) [v2, a1] h fun _ h4 =>
some ((.tup []), h4)
theorem S198_eq (c : CV) (a0 a1 : AV) (h : AH) : qg Tryz.prog NN P198 c 198 [a0, a1] h = S198 c a0 a1 h := by kernel_rfl
def W198 : WF := w_2 S198
theorem W198_ok : WOk Tryz.prog 198 W198 := jg (pl := P198) fun _ _ _ _ => by rw [S198_eq]
def P199 : Pl := .z
def S199 (c : CV) (a0 : AV) (h : AH) : R :=
qC a0 fun v0 =>
qJ v0 2 fun v1 =>
qZ h v1 fun v2 =>
qW c (.fn 242 [] []) [v2] h fun v3 h4 =>
some (v3, h4)
theorem S199_eq (c : CV) (a0 : AV) (h : AH) : qg Tryz.prog NN P199 c 199 [a0] h = S199 c a0 h := by kernel_rfl
def W199 : WF := w_1 S199
theorem W199_ok : WOk Tryz.prog 199 W199 := jY (pl := P199) fun _ _ _ => by rw [S199_eq]
def P200 : Pl := .z
def S200 (_ : CV) (a0 : AV) (h : AH) : R :=
qC a0 fun v0 =>
qJ v0 0 fun v1 =>
qZ h v1 fun v2 =>
qr v2 fun v3 =>
some (v3, h)
theorem S200_eq (c : CV) (a0 : AV) (h : AH) : qg Tryz.prog NN P200 c 200 [a0] h = S200 c a0 h := by kernel_rfl
def W200 : WF := w_1 S200
theorem W200_ok : WOk Tryz.prog 200 W200 := jY (pl := P200) fun _ _ _ => by rw [S200_eq]
def P201 : Pl := (.n none .z (.n none .z (.n none .z (.n none .z (.n none .z (.n none (.r [[2]]) .z))))))
def S201 (c : CV) (a0 : AV) (h : AH) : R :=
qW c (.fn 222 [] []) [a0] h fun v0 h1 =>
qW c (.fn 203 [] []) [a0] h1 fun v2 h3 =>
qq .neq v2 (iI 0) fun v4 =>
qj v4 (
some (v2, h3)) (
qW c (.fn 222 [] []) [a0] h3 fun v5 h6 =>
qC v5 fun v7 =>
qJ v7 1 fun v8 =>
qZ h6 v8 fun v9 =>
qC v0 fun v10 =>
qJ v10 1 fun v11 =>
qZ h6 v11 fun v12 =>
jX h6 3 1 v9 v12 fun v13 h14 =>
qC v5 fun v15 =>
qJ v15 1 fun v16 =>
qv h14 v16 v13 1 fun h17 =>
qw (α := AV × Unit → AH → R) (fun s18 h19 =>
some (s18.1, h19)) fun j20 =>
qC v5 fun v21 =>
qJ v21 0 fun v22 =>
qZ h17 v22 fun v23 =>
qC v0 fun v24 =>
qJ v24 0 fun v25 =>
qZ h17 v25 fun v26 =>
qW c (.fn 102 [] []) [v26] h17 fun v27 h28 =>
qW c (.fn 101 [] []) [v23, v27] h28 fun v29 h30 =>
zQ v22 none v23 h17 h28 h17.nx <|
j20 (v29, ()) h30)
theorem S201_eq (c : CV) (a0 : AV) (h : AH) : qg Tryz.prog NN P201 c 201 [a0] h = S201 c a0 h := by kernel_rfl
def W201 : WF := w_1 S201
theorem W201_ok : WOk Tryz.prog 201 W201 := jY (pl := P201) fun _ _ _ => by rw [S201_eq]
def P202 : Pl := .z
def S202 (c : CV) (a0 a1 : AV) (h : AH) : R :=
qC a0 fun v0 =>
qJ v0 0 fun v1 =>
qZ h v1 fun v2 =>
qC a0 fun v3 =>
qJ v3 0 fun v4 =>
qZ h v4 fun v5 =>
qr v5 fun v6 =>
pMM false [a1, v6] fun v7 =>
pMM true [(iI 0), v7] fun v8 =>
ju h 20 1 v2 none (some v8) fun v9 =>
qW c (.fn 88 [] []) [v9] h fun v10 h11 =>
qC a0 fun v12 =>
qJ v12 0 fun v13 =>
qv h11 v13 v10 1 fun h14 =>
some ((.tup []), h14)
theorem S202_eq (c : CV) (a0 a1 : AV) (h : AH) : qg Tryz.prog NN P202 c 202 [a0, a1] h = S202 c a0 a1 h := by kernel_rfl
def W202 : WF := w_2 S202
theorem W202_ok : WOk Tryz.prog 202 W202 := jg (pl := P202) fun _ _ _ _ => by rw [S202_eq]
def P203 : Pl := .z
def S203 (_ : CV) (a0 : AV) (h : AH) : R :=
qC a0 fun v0 =>
qJ v0 1 fun v1 =>
qZ h v1 fun v2 =>
qr v2 fun v3 =>
qq .eql v3 (iI 1) fun v4 =>
qj v4 (
some ((iI 10), h)) (
qC a0 fun v5 =>
qJ v5 1 fun v6 =>
qZ h v6 fun v7 =>
qC a0 fun v8 =>
qJ v8 1 fun v9 =>
qZ h v9 fun v10 =>
qr v10 fun v11 =>
qq .sub v11 (iI 1) fun v12 =>
ju h 136 1 v7 none (some v12) fun v13 =>
qC a0 fun v14 =>
qJ v14 1 fun v15 =>
qv h v15 v13 1 fun h16 =>
some ((iI 0), h16))
theorem S203_eq (c : CV) (a0 : AV) (h : AH) : qg Tryz.prog NN P203 c 203 [a0] h = S203 c a0 h := by kernel_rfl
def W203 : WF := w_1 S203
theorem W203_ok : WOk Tryz.prog 203 W203 := jY (pl := P203) fun _ _ _ => by rw [S203_eq]
def P204 : Pl := .z
def S204 (_ : CV) (a0 : AV) (h : AH) : R :=
qq .lss a0 (iI 10) fun v0 =>
qj v0 (
qq .add a0 (iI 1) fun v1 =>
vC (.str [48, 49, 50, 51, 52, 53, 54, 55, 56, 57, 97, 98, 99, 100, 101, 102, 103, 104, 105, 106, 107, 108, 109, 110, 111, 112, 113, 114, 115, 116, 117, 118, 119, 120, 121, 122]) (some a0) (some v1) fun v2 =>
some (v2, h)) (
qq .mul a0 (iI 2) fun v3 =>
qq .mul a0 (iI 2) fun v4 =>
qq .add v4 (iI 2) fun v5 =>
vC (.str [48, 48, 48, 49, 48, 50, 48, 51, 48, 52, 48, 53, 48, 54, 48, 55, 48, 56, 48, 57, 49, 48, 49, 49, 49, 50, 49, 51, 49, 52, 49, 53, 49, 54, 49, 55, 49, 56, 49, 57, 50, 48, 50, 49, 50, 50, 50, 51, 50, 52, 50, 53, 50, 54, 50, 55, 50, 56, 50, 57, 51, 48, 51, 49, 51, 50, 51, 51, 51, 52, 51, 53, 51, 54, 51, 55, 51, 56, 51, 57, 52, 48, 52, 49, 52, 50, 52, 51, 52, 52, 52, 53, 52, 54, 52, 55, 52, 56, 52, 57, 53, 48, 53, 49, 53, 50, 53, 51, 53, 52, 53, 53, 53, 54, 53, 55, 53, 56, 53, 57, 54, 48, 54, 49, 54, 50, 54, 51, 54, 52, 54, 53, 54, 54, 54, 55, 54, 56, 54, 57, 55, 48, 55, 49, 55, 50, 55, 51, 55, 52, 55, 53, 55, 54, 55, 55, 55, 56, 55, 57, 56, 48, 56, 49, 56, 50, 56, 51, 56, 52, 56, 53, 56, 54, 56, 55, 56, 56, 56, 57, 57, 48, 57, 49, 57, 50, 57, 51, 57, 52, 57, 53, 57, 54, 57, 55, 57, 56, 57, 57]) (some v3) (some v5) fun v6 =>
some (v6, h))
theorem S204_eq (c : CV) (a0 : AV) (h : AH) : qg Tryz.prog NN P204 c 204 [a0] h = S204 c a0 h := by kernel_rfl
def W204 : WF := w_1 S204
theorem W204_ok : WOk Tryz.prog 204 W204 := jY (pl := P204) fun _ _ _ => by rw [S204_eq]
def P207 : Pl := (.n none .z (.n (some [11, 10, 4, 3, 2, 1, 0]) (.n none (.r [[23, 21, 11, 10, 4, 3, 2, 1, 0], [27, 25, 11, 10, 4, 3, 2, 1, 0]]) .z) (.n none .z (.n none .z (.n (some [13, 12, 11, 10, 4, 3, 2, 1, 0]) .z (.n (some [13, 12, 11, 10, 4, 3, 0]) (.n none .z (.n none (.n none .z (.n none .z (.n none .z (.n none (.n none (.n (some [16, 15, 14, 13, 12, 11, 10, 4, 3, 1, 0]) .z .z) .z) .z)))) (.n none .z (.n none (.n none (.n (some [17, 13, 12, 11, 10, 4, 3, 1, 0]) .z .z) .z) .z)))) (.n (some [13, 12, 11, 10, 4, 0]) .z .z)))))))
def S207 (c : CV) (a0 a1 a2 a3 a4 : AV) (h : AH) : R :=
qw (α := AV × AV × AV × AV × AV × AV × AV × Unit → AH → List Nat → R) (fun s0 h1 d2 =>
q9 h1 275 (.agg [(.int .u8 (.ofNat 0)), (.int .u8 (.ofNat 0)), (.int .u8 (.ofNat 0)), (.int .u8 (.ofNat 0)), (.int .u8 (.ofNat 0)), (.int .u8 (.ofNat 0)), (.int .u8 (.ofNat 0)), (.int .u8 (.ofNat 0)), (.int .u8 (.ofNat 0)), (.int .u8 (.ofNat 0)), (.int .u8 (.ofNat 0)), (.int .u8 (.ofNat 0)), (.int .u8 (.ofNat 0)), (.int .u8 (.ofNat 0)), (.int .u8 (.ofNat 0)), (.int .u8 (.ofNat 0)), (.int .u8 (.ofNat 0)), (.int .u8 (.ofNat 0)), (.int .u8 (.ofNat 0)), (.int .u8 (.ofNat 0)), (.int .u8 (.ofNat 0)), (.int .u8 (.ofNat 0)), (.int .u8 (.ofNat 0)), (.int .u8 (.ofNat 0)), (.int .u8 (.ofNat 0)), (.int .u8 (.ofNat 0)), (.int .u8 (.ofNat 0)), (.int .u8 (.ofNat 0)), (.int .u8 (.ofNat 0)), (.int .u8 (.ofNat 0)), (.int .u8 (.ofNat 0)), (.int .u8 (.ofNat 0)), (.int .u8 (.ofNat 0)), (.int .u8 (.ofNat 0)), (.int .u8 (.ofNat 0)), (.int .u8 (.ofNat 0)), (.int .u8 (.ofNat 0)), (.int .u8 (.ofNat 0)), (.int .u8 (.ofNat 0)), (.int .u8 (.ofNat 0)), (.int .u8 (.ofNat 0)), (.int .u8 (.ofNat 0)), (.int .u8 (.ofNat 0)), (.int .u8 (.ofNat 0)), (.int .u8 (.ofNat 0)), (.int .u8 (.ofNat 0)), (.int .u8 (.ofNat 0)), (.int .u8 (.ofNat 0)), (.int .u8 (.ofNat 0)), (.int .u8 (.ofNat 0)), (.int .u8 (.ofNat 0)), (.int .u8 (.ofNat 0)), (.int .u8 (.ofNat 0)), (.int .u8 (.ofNat 0)), (.int .u8 (.ofNat 0)), (.int .u8 (.ofNat 0)), (.int .u8 (.ofNat 0)), (.int .u8 (.ofNat 0)), (.int .u8 (.ofNat 0)), (.int .u8 (.ofNat 0)), (.int .u8 (.ofNat 0)), (.int .u8 (.ofNat 0)), (.int .u8 (.ofNat 0)), (.int .u8 (.ofNat 0)), (.int .u8 (.ofNat 0))]) fun v4 h5 =>
qw (α := AV × AV × AV × AV × AV × AV × AV × AV × AV × Unit → AH → List Nat → R) (fun s6 h7 d8 =>
qw (α := AV × AV × AV × AV × AV × AV × AV × Unit → AH → List Nat → R) (fun s10 h11 d12 =>
qw (α := AV × AV × AV × AV × AV × AV × Unit → AH → List Nat → R) (fun s14 h15 d16 =>
qj s14.2.2.2.2.1 (
yD 65 1 s14.2.1 (some s14.1) none fun v18 =>
jX h15 5 1 s14.2.2.2.2.2.1 v18 fun v19 h20 =>
qP d16 h20 fun h21 =>
some ((.tup [v19, s14.2.2.1]), h21)) (
yD 65 1 s14.2.1 (some s14.1) none fun v22 =>
YO h15 v22 fun v23 =>
qP d16 h15 fun h24 =>
some ((.tup [s14.2.2.2.1, v23]), h24))) fun j17 =>
qj s10.2.2.2.2.2.1 (
qq .sub s10.1 (iI 1) fun v25 =>
yH s10.2.1 v25 65 1 fun v26 =>
qv h11 v26 (.int .u8 (.ofNat 45)) 1 fun h27 =>
j17 (v25, s10.2.1, s10.2.2.1, s10.2.2.2.1, s10.2.2.2.2.1, s10.2.2.2.2.2.2.1, ()) h27 d12) (
j17 (s10.1, s10.2.1, s10.2.2.1, s10.2.2.2.1, s10.2.2.2.2.1, s10.2.2.2.2.2.2.1, ()) h11 d12)) fun j13 =>
qW c (.fn 246 [] []) [s6.2.2.2.2.2.2.1] h7 fun v28 h29 =>
qj v28 (
jE .u64 s6.2.2.2.2.2.2.1 fun v30 =>
qW c (.fn 247 [] []) [v30] h29 fun v31 h32 =>
jE .u64 v31 fun v33 =>
jE .u64 s6.2.2.2.2.2.2.1 fun v34 =>
jE .u64 s6.2.2.2.2.2.2.1 fun v35 =>
qq .sub v35 (uU 1) fun v36 =>
jd (σ := AV × AV × AV × AV × AV × AV × AV × AV × AV × AV × AV × Unit) NN (fun i40 s37 h38 d39 =>
qq .geq s37.2.2.2.2.2.2.2.2.2.1 s37.2.1 fun v41 =>
qj v41 (
qq .sub s37.2.2.2.1 (iI 1) fun v42 =>
qq .and s37.2.2.2.2.2.2.2.2.2.1 s37.1 fun v43 =>
vB (.str [48, 49, 50, 51, 52, 53, 54, 55, 56, 57, 97, 98, 99, 100, 101, 102, 103, 104, 105, 106, 107, 108, 109, 110, 111, 112, 113, 114, 115, 116, 117, 118, 119, 120, 121, 122]) v43 fun v44 =>
yH s37.2.2.2.2.1 v42 65 1 fun v45 =>
qv h38 v45 v44 1 fun h46 =>
xg .shr s37.2.2.2.2.2.2.2.2.2.1 s37.2.2.1 fun v47 =>
i40 (s37.1, s37.2.1, s37.2.2.1, v42, s37.2.2.2.2.1, s37.2.2.2.2.2.1, s37.2.2.2.2.2.2.1, s37.2.2.2.2.2.2.2.1, s37.2.2.2.2.2.2.2.2.1, v47, s37.2.2.2.2.2.2.2.2.2.2.1, ()) h46 d39) (
qq .sub s37.2.2.2.1 (iI 1) fun v48 =>
vB (.str [48, 49, 50, 51, 52, 53, 54, 55, 56, 57, 97, 98, 99, 100, 101, 102, 103, 104, 105, 106, 107, 108, 109, 110, 111, 112, 113, 114, 115, 116, 117, 118, 119, 120, 121, 122]) s37.2.2.2.2.2.2.2.2.2.1 fun v49 =>
yH s37.2.2.2.2.1 v48 65 1 fun v50 =>
qv h38 v50 v49 1 fun h51 =>
j13 (v48, s37.2.2.2.2.1, s37.2.2.2.2.2.1, s37.2.2.2.2.2.2.1, s37.2.2.2.2.2.2.2.1, s37.2.2.2.2.2.2.2.2.1, s37.2.2.2.2.2.2.2.2.2.2.1, ()) h51 d39)) (v36, v34, v33, s6.1, s6.2.1, s6.2.2.1, s6.2.2.2.1, s6.2.2.2.2.1, s6.2.2.2.2.2.1, s6.2.2.2.2.2.2.2.1, s6.2.2.2.2.2.2.2.2.1, ()) h32 d8) (
jE .u64 s6.2.2.2.2.2.2.1 fun v52 =>
jd (σ := AV × AV × AV × AV × AV × AV × AV × AV × AV × Unit) NN (fun i56 s53 h54 d55 =>
qq .geq s53.2.2.2.2.2.2.2.1 s53.1 fun v57 =>
qj v57 (
qq .sub s53.2.1 (iI 1) fun v58 =>
qq .quo s53.2.2.2.2.2.2.2.1 s53.1 fun v59 =>
qq .mul v59 s53.1 fun v60 =>
qq .sub s53.2.2.2.2.2.2.2.1 v60 fun v61 =>
vB (.str [48, 49, 50, 51, 52, 53, 54, 55, 56, 57, 97, 98, 99, 100, 101, 102, 103, 104, 105, 106, 107, 108, 109, 110, 111, 112, 113, 114, 115, 116, 117, 118, 119, 120, 121, 122]) v61 fun v62 =>
yH s53.2.2.1 v58 65 1 fun v63 =>
qv h54 v63 v62 1 fun h64 =>
i56 (s53.1, v58, s53.2.2.1, s53.2.2.2.1, s53.2.2.2.2.1, s53.2.2.2.2.2.1, s53.2.2.2.2.2.2.1, v59, s53.2.2.2.2.2.2.2.2.1, ()) h64 d55) (
qq .sub s53.2.1 (iI 1) fun v65 =>
vB (.str [48, 49, 50, 51, 52, 53, 54, 55, 56, 57, 97, 98, 99, 100, 101, 102, 103, 104, 105, 106, 107, 108, 109, 110, 111, 112, 113, 114, 115, 116, 117, 118, 119, 120, 121, 122]) s53.2.2.2.2.2.2.2.1 fun v66 =>
yH s53.2.2.1 v65 65 1 fun v67 =>
qv h54 v67 v66 1 fun h68 =>
j13 (v65, s53.2.2.1, s53.2.2.2.1, s53.2.2.2.2.1, s53.2.2.2.2.2.1, s53.2.2.2.2.2.2.1, s53.2.2.2.2.2.2.2.2.1, ()) h68 d55)) (v52, s6.1, s6.2.1, s6.2.2.1, s6.2.2.2.1, s6.2.2.2.2.1, s6.2.2.2.2.2.1, s6.2.2.2.2.2.2.2.1, s6.2.2.2.2.2.2.2.2.1, ()) h29 d8)) fun j9 =>
qj s0.2.2.2.1 (
pUn .neg s0.2.2.2.2.2.1 fun v69 =>
j9 ((iI 65), v4, s0.1, s0.2.1, s0.2.2.1, s0.2.2.2.1, s0.2.2.2.2.1, v69, s0.2.2.2.2.2.2.1, ()) h5 d2) (
j9 ((iI 65), v4, s0.1, s0.2.1, s0.2.2.1, s0.2.2.2.1, s0.2.2.2.2.1, s0.2.2.2.2.2.1, s0.2.2.2.2.2.2.1, ()) h5 d2)) fun j3 =>
qq .lss a2 (iI 2) fun v70 =>
qw (α := AV × AV × AV × AV × AV × AV × AV × AV × AV × Unit → AH → R) (fun s71 h72 =>
qn s71.2.1 (.bool true) s71.1 fun v74 =>
qw (α := AV × AV × AV × AV × AV × AV × AV × AV × AV × Unit → AH → R) (fun s75 h76 =>
qn s75.2.1 (.bool true) s75.1 fun v78 =>
qj v78 (
none /- op -/) (
j3 (s75.2.2.1, s75.2.2.2.1, s75.2.2.2.2.1, s75.2.2.2.2.2.1, s75.2.2.2.2.2.2.1, s75.2.2.2.2.2.2.2.1, s75.2.2.2.2.2.2.2.2.1, ()) h76 [])) fun j77 =>
qe v74 false (
qq .gtr s71.2.2.2.2.2.2.1 (iI 36) fun v79 =>
j77 (v79, v74, s71.2.2.1, s71.2.2.2.1, s71.2.2.2.2.1, s71.2.2.2.2.2.1, s71.2.2.2.2.2.2.1, s71.2.2.2.2.2.2.2.1, s71.2.2.2.2.2.2.2.2.1, ()) h72) (
j77 (.undef, v74, s71.2.2.1, s71.2.2.2.1, s71.2.2.2.2.1, s71.2.2.2.2.2.1, s71.2.2.2.2.2.2.1, s71.2.2.2.2.2.2.2.1, s71.2.2.2.2.2.2.2.2.1, ()) h72)) fun j73 =>
qe v70 false (
qq .eql a2 (iI 10) fun v80 =>
j73 (v80, v70, (.str []), .nils, a4, a3, a2, a1, a0, ()) h) (
j73 (.undef, v70, (.str []), .nils, a4, a3, a2, a1, a0, ()) h)
theorem S207_eq (c : CV) (a0 a1 a2 a3 a4 : AV) (h : AH) : qg Tryz.prog NN P207 c 207 [a0, a1, a2, a3, a4] h = S207 c a0 a1 a2 a3 a4 h := by kernel_rfl
def W207 : WF := w_5 S207
theorem W207_ok : WOk Tryz.prog 207 W207 := gn (pl := P207) fun _ _ _ _ _ _ _ => by rw [S207_eq]
def P218 : Pl := .z
def S218 (c : CV) (a0 a1 : AV) (h : AH) : R :=
q9 h 3 a1 fun v0 h1 =>
qC a0 fun v2 =>
qJ v2 1 fun v3 =>
qZ h1 v3 fun v4 =>
qW c (.fn 249 [] []) [v4, (.fn 250 [] [v0])] h1 fun v5 h6 =>
some (v5, h6)
theorem S218_eq (c : CV) (a0 a1 : AV) (h : AH) : qg Tryz.prog NN P218 c 218 [a0, a1] h = S218 c a0 a1 h := by kernel_rfl
def W218 : WF := w_2 S218
theorem W218_ok : WOk Tryz.prog 218 W218 := jg (pl := P218) fun _ _ _ _ => by rw [S218_eq]
def P219 : Pl := (.n none .z (.n none (.n none (.r [[11, 7, 1, 0]]) .z) .z))
def S219 (_ : CV) (a0 a1 : AV) (h : AH) : R :=
qq .lss a1 (iI 0) fun v0 =>
qw (α := AV × AV × AV × AV × Unit → AH → R) (fun s1 h2 =>
qn s1.2.1 (.bool true) s1.1 fun v4 =>
qj v4 (
some ((.str []), h2)) (
jK s1.2.2.2.1 s1.2.2.1 1 fun v5 =>
qZ h2 v5 fun v6 =>
some (v6, h2))) fun j3 =>
qe v0 false (
qr a0 fun v7 =>
qq .geq a1 v7 fun v8 =>
j3 (v8, v0, a1, a0, ()) h) (
j3 (.undef, v0, a1, a0, ()) h)
theorem S219_eq (c : CV) (a0 a1 : AV) (h : AH) : qg Tryz.prog NN P219 c 219 [a0, a1] h = S219 c a0 a1 h := by kernel_rfl
def W219 : WF := w_2 S219
theorem W219_ok : WOk Tryz.prog 219 W219 := jg (pl := P219) fun _ _ _ _ => by rw [S219_eq]
def P220 : Pl := .z
def S220 (_ : CV) (h : AH) : R :=
q8 h 9 [(.str [])] 24 [(0, 1, (.str [])), (1, 1, (.str [115, 101, 116])), (2, 1, (.str [109, 111, 118, 101])), (3, 1, (.str [97, 100, 100])), (4, 1, (.str [115, 117, 98])), (5, 1, (.str [109, 117, 108])), (6, 1, (.str [108, 101, 115, 115])), (7, 1, (.str [101, 113, 117, 97, 108])), (8, 1, (.str [108, 111, 97, 100])), (9, 1, (.str [115, 116, 111, 114, 101])), (10, 1, (.str [97, 108, 108, 111, 99])), (11, 1, (.str [102, 114, 101, 101])), (12, 1, (.str [106, 117, 109, 112])), (13, 1, (.str [122, 101, 114, 111])), (14, 1, (.str [111, 112, 101, 110])), (15, 1, (.str [99, 108, 111, 115, 101])), (16, 1, (.str [117, 110, 100, 111])), (17, 1, (.str [101, 105, 116, 104, 101, 114])), (18, 1, (.str [111, 114])), (19, 1, (.str [100, 111, 110, 101])), (20, 1, (.str [114, 101, 116, 114, 121])), (21, 1, (.str [101, 109, 105, 116])), (22, 1, (.str [102, 97, 105, 108])), (23, 1, (.str [99, 97, 108, 108]))] fun v0 h1 =>
some (v0, h1)
theorem S220_eq (c : CV) (h : AH) : qg Tryz.prog NN P220 c 220 [] h = S220 c h := by kernel_rfl
def W220 : WF := w_0 S220
theorem W220_ok : WOk Tryz.prog 220 W220 := Yl (pl := P220) fun _ _ => by rw [S220_eq]
def P221 : Pl := .z
def S221 (c : CV) (a0 a1 : AV) (h : AH) : R :=
qW c (.fn 218 [] []) [a0, a1] h fun v0 h1 =>
qq .geq v0 (iI 0) fun v2 =>
qj v2 (
qC a0 fun v3 =>
qJ v3 1 fun v4 =>
qZ h1 v4 fun v5 =>
jK v5 v0 2 fun v6 =>
qJ v6 1 fun v7 =>
qZ h1 v7 fun v8 =>
some ((.tup [v8, (.bool true)]), h1)) (
some ((.tup [(uU 0), (.bool false)]), h1))
theorem S221_eq (c : CV) (a0 a1 : AV) (h : AH) : qg Tryz.prog NN P221 c 221 [a0, a1] h = S221 c a0 a1 h := by kernel_rfl
def W221 : WF := w_2 S221
theorem W221_ok : WOk Tryz.prog 221 W221 := jg (pl := P221) fun _ _ _ _ => by rw [S221_eq]
def P222 : Pl := .z
def S222 (_ : CV) (a0 : AV) (h : AH) : R :=
qC a0 fun v0 =>
qJ v0 1 fun v1 =>
qZ h v1 fun v2 =>
qC a0 fun v3 =>
qJ v3 1 fun v4 =>
qZ h v4 fun v5 =>
qr v5 fun v6 =>
qq .sub v6 (iI 1) fun v7 =>
jK v2 v7 1 fun v8 =>
qZ h v8 fun v9 =>
some (v9, h)
theorem S222_eq (c : CV) (a0 : AV) (h : AH) : qg Tryz.prog NN P222 c 222 [a0] h = S222 c a0 h := by kernel_rfl
def W222 : WF := w_1 S222
theorem W222_ok : WOk Tryz.prog 222 W222 := jY (pl := P222) fun _ _ _ => by rw [S222_eq]
def P223 : Pl := (.n none .z (.n none .z (.n none (.n none .z (.n none (.n (some [14, 13, 12, 3, 0]) .z .z) .z)) (.n none (.n none .z (.n none (.n (some [28, 27, 26, 3]) .z .z) .z)) .z))))
def S223 (c : CV) (a0 : AV) (h : AH) : R :=
qW c (.fn 107 [] []) [a0] h fun v0 h1 =>
qW c (.fn 11 [] []) [v0, (iI 96)] h1 fun v2 h3 =>
qW c (.fn 31 [] []) [a0] h3 fun v4 h5 =>
qr v4 fun v6 =>
jd (σ := AV × AV × AV × AV × AV × Unit) NN (fun i10 s7 h8 d9 =>
qq .lss s7.1 s7.2.1 fun v11 =>
qj v11 (
jK s7.2.2.1 s7.1 2 fun v12 =>
qT h8 v12 2 fun v13 =>
q9 h8 67 (.agg [(iI 0), (uU 0)]) fun v14 h15 =>
qv h15 v14 v13 2 fun h16 =>
qJ v14 0 fun v17 =>
qZ h16 v17 fun v18 =>
qJ v14 1 fun v19 =>
qZ h16 v19 fun v20 =>
qW c (.fn 15 [] []) [s7.2.2.2.1, v18, v20] h16 fun _ h22 =>
qq .add s7.1 (iI 1) fun v23 =>
i10 (v23, s7.2.1, s7.2.2.1, s7.2.2.2.1, s7.2.2.2.2.1, ()) h22 d9) (
qW c (.fn 251 [] []) [s7.2.2.2.2.1] h8 fun v24 h25 =>
qr v24 fun v26 =>
jd (σ := AV × AV × AV × AV × Unit) NN (fun i30 s27 h28 d29 =>
qq .lss s27.1 s27.2.1 fun v31 =>
qj v31 (
jK s27.2.2.1 s27.1 2 fun v32 =>
qT h28 v32 2 fun v33 =>
q9 h28 67 (.agg [(iI 0), (uU 0)]) fun v34 h35 =>
qv h35 v34 v33 2 fun h36 =>
qJ v34 0 fun v37 =>
qZ h36 v37 fun v38 =>
qJ v34 1 fun v39 =>
qZ h36 v39 fun v40 =>
qW c (.fn 15 [] []) [s27.2.2.2.1, v38, v40] h36 fun _ h42 =>
qq .add s27.1 (iI 1) fun v43 =>
i30 (v43, s27.2.1, s27.2.2.1, s27.2.2.2.1, ()) h42 d29) (
qP d29 h28 fun h44 =>
some (s27.2.2.2.1, h44))) ((iI 0), v26, v24, s7.2.2.2.1, ()) h25 d9)) ((iI 0), v6, v4, v2, a0, ()) h5 []
theorem S223_eq (c : CV) (a0 : AV) (h : AH) : qg Tryz.prog NN P223 c 223 [a0] h = S223 c a0 h := by kernel_rfl
def W223 : WF := w_1 S223
theorem W223_ok : WOk Tryz.prog 223 W223 := jY (pl := P223) fun _ _ _ => by rw [S223_eq]
def P224 : Pl := (.n none .z (.n none .z (.n (some [0]) .z .z)))
def S224 (c : CV) (a0 : AV) (h : AH) : R :=
qC a0 fun v0 =>
qJ v0 2 fun v1 =>
qZ h v1 fun v2 =>
qq .add v2 (iI 1) fun v3 =>
qC a0 fun v4 =>
qJ v4 2 fun v5 =>
qv h v5 v3 1 fun h6 =>
qw (α := AV × Unit → AH → List Nat → R) (fun s7 h8 d9 =>
qW c (.fn 164 [] []) [s7.1] h8 fun v11 h12 =>
qP d9 h12 fun h13 =>
some (v11, h13)) fun j10 =>
qC a0 fun v14 =>
qJ v14 2 fun v15 =>
qZ h6 v15 fun v16 =>
qq .gtr v16 (iI 2048) fun v17 =>
qj v17 (
qW c (.fn 226 [] []) [a0, (iI 2)] h6 fun _ h19 =>
j10 (a0, ()) h19 []) (
j10 (a0, ()) h6 [])
theorem S224_eq (c : CV) (a0 : AV) (h : AH) : qg Tryz.prog NN P224 c 224 [a0] h = S224 c a0 h := by kernel_rfl
def W224 : WF := w_1 S224
theorem W224_ok : WOk Tryz.prog 224 W224 := jY (pl := P224) fun _ _ _ => by rw [S224_eq]
def P225 : Pl := .z
def S225 (c : CV) (a0 a1 : AV) (h : AH) : R :=
qW c (.fn 170 [] []) [a0, a1] h fun v0 h1 =>
qW c (.fn 252 [] []) [a0, v0] h1 fun v2 h3 =>
some (v2, h3)
theorem S225_eq (c : CV) (a0 a1 : AV) (h : AH) : qg Tryz.prog NN P225 c 225 [a0, a1] h = S225 c a0 a1 h := by kernel_rfl
def W225 : WF := w_2 S225
theorem W225_ok : WOk Tryz.prog 225 W225 := jg (pl := P225) fun _ _ _ _ => by rw [S225_eq]
def P226 : Pl := .z
def S226 (c : CV) (a0 a1 : AV) (h : AH) : R :=
qW c (.fn 164 [] []) [a0] h fun v0 h1 =>
qj v0 (
qC a0 fun v2 =>
qJ v2 1 fun v3 =>
qv h1 v3 a1 1 fun h4 =>
some ((.tup []), h4)) (
some ((.tup []), h1))
theorem S226_eq (c : CV) (a0 a1 : AV) (h : AH) : qg Tryz.prog NN P226 c 226 [a0, a1] h = S226 c a0 a1 h := by kernel_rfl
def W226 : WF := w_2 S226
theorem W226_ok : WOk Tryz.prog 226 W226 := jg (pl := P226) fun _ _ _ _ => by rw [S226_eq]
def P227 : Pl := .z
def S227 (_ : CV) (a0 a1 : AV) (h : AH) : R :=
qq .mul a0 (uU 11400714819323198485) fun v0 =>
xg .shr v0 (uU 60) fun v1 =>
jE .i64 v1 fun v2 =>
qq .sub a1 (iI 1) fun v3 =>
qq .and v2 v3 fun v4 =>
some (v4, h)
theorem S227_eq (c : CV) (a0 a1 : AV) (h : AH) : qg Tryz.prog NN P227 c 227 [a0, a1] h = S227 c a0 a1 h := by kernel_rfl
def W227 : WF := w_2 S227
theorem W227_ok : WOk Tryz.prog 227 W227 := jg (pl := P227) fun _ _ _ _ => by rw [S227_eq]
def P228 : Pl := (.n none .z (.n none (.n (some [11, 10, 1, 0]) (.n none .z (.n none .z (.n none (.n none (.n none .z (.n none .z (.n none (.n (some [11, 10, 5, 1, 0]) (.n none (.n none (.r [[32, 27, 11, 10, 5, 1, 0]]) .z) .z) .z) .z))) .z) .z))) .z) .z))
def S228 (c : CV) (a0 a1 : AV) (h : AH) : R :=
qC a0 fun v0 =>
qJ v0 2 fun v1 =>
qZ h v1 fun v2 =>
jd (σ := AV × AV × AV × AV × Unit) NN (fun i6 s3 h4 d5 =>
qq .lss s3.1 s3.2.1 fun v7 =>
qj v7 (
qC s3.2.2.2.1 fun v8 =>
qJ v8 0 fun v9 =>
qZ h4 v9 fun v10 =>
qC s3.2.2.2.1 fun v11 =>
qJ v11 3 fun v12 =>
qZ h4 v12 fun v13 =>
qq .add v13 s3.1 fun v14 =>
qW c (.fn 225 [] []) [v10, v14] h4 fun v15 h16 =>
jd (σ := AV × AV × AV × AV × AV × Unit) NN (fun i20 s17 h18 d19 =>
qq .neq s17.2.2.1 (iI 0) fun v21 =>
qw (α := AV × AV × AV × AV × AV × AV × AV × Unit → AH → R) (fun s22 h23 =>
qn s22.2.1 s22.1 (.bool false) fun v25 =>
qj v25 (
qC s22.2.2.2.2.2.2.1 fun v26 =>
qJ v26 0 fun v27 =>
qZ h23 v27 fun v28 =>
qq .add s22.2.2.2.2.1 (iI 2) fun v29 =>
qW c (.fn 225 [] []) [v28, v29] h23 fun v30 h31 =>
qW c s22.2.2.2.2.2.1 [s22.2.2.2.2.1] h31 fun _ h33 =>
i20 (s22.2.2.1, s22.2.2.2.1, v30, s22.2.2.2.2.2.1, s22.2.2.2.2.2.2.1, ()) h33 d19) (
qq .add s22.2.2.1 (iI 1) fun v34 =>
i6 (v34, s22.2.2.2.1, s22.2.2.2.2.2.1, s22.2.2.2.2.2.2.1, ()) h23 d19)) fun j24 =>
qe v21 true (
qC s17.2.2.2.2.1 fun v35 =>
qJ v35 0 fun v36 =>
qZ h18 v36 fun v37 =>
qW c (.fn 224 [] []) [v37] h18 fun v38 h39 =>
j24 (v38, v21, s17.1, s17.2.1, s17.2.2.1, s17.2.2.2.1, s17.2.2.2.2.1, ()) h39) (
j24 (.undef, v21, s17.1, s17.2.1, s17.2.2.1, s17.2.2.2.1, s17.2.2.2.2.1, ()) h18)) (s3.1, s3.2.1, v15, s3.2.2.1, s3.2.2.2.1, ()) h16 d5) (
qP d5 h4 fun h40 =>
some ((.tup []), h40))) ((iI 0), v2, a1, a0, ()) h []
theorem S228_eq (c : CV) (a0 a1 : AV) (h : AH) : qg Tryz.prog NN P228 c 228 [a0, a1] h = S228 c a0 a1 h := by kernel_rfl
def W228 : WF := w_2 S228
theorem W228_ok : WOk Tryz.prog 228 W228 := jg (pl := P228) fun _ _ _ _ => by rw [S228_eq]
def P229 : Pl := (.n none (.r [[5, 3, 1, 0]]) .z)
def S229 (c : CV) (a0 a1 a2 a3 : AV) (h : AH) : R :=
qw (α := AV × AV × AV × AV × Unit → AH → R) (fun s0 h1 =>
qZ h1 s0.2.2.1 fun v3 =>
qC v3 fun v4 =>
qJ v4 0 fun v5 =>
qZ h1 v5 fun v6 =>
qq .add s0.2.2.2.1 (iI 2) fun v7 =>
qZ h1 s0.2.1 fun v8 =>
jK v8 s0.1 1 fun v9 =>
qZ h1 v9 fun v10 =>
qW c (.fn 168 [] []) [v6, v7, v10] h1 fun _ h12 =>
qZ h12 s0.2.1 fun v13 =>
jK v13 s0.1 1 fun v14 =>
qv h12 v14 s0.2.2.2.1 1 fun h15 =>
some ((.tup []), h15)) fun j2 =>
qZ h a1 fun v16 =>
qC v16 fun v17 =>
qJ v17 0 fun v18 =>
qZ h v18 fun v19 =>
qq .add a0 (iI 0) fun v20 =>
qW c (.fn 170 [] []) [v19, v20] h fun v21 h22 =>
qZ h22 a2 fun v23 =>
qW c (.fn 227 [] []) [v21, v23] h22 fun v24 h25 =>
zQ a2 none v23 h h22 h.nx <|
j2 (v24, a3, a1, a0, ()) h25
theorem S229_eq (c : CV) (a0 a1 a2 a3 : AV) (h : AH) : qg Tryz.prog NN P229 c 229 [a0, a1, a2, a3] h = S229 c a0 a1 a2 a3 h := by kernel_rfl
def W229 : WF := w_4 S229
theorem W229_ok : WOk Tryz.prog 229 W229 := yg (pl := P229) fun _ _ _ _ _ _ => by rw [S229_eq]
def P230 : Pl := (.n none .z (.n (some [5, 4, 2, 0]) .z (.n none .z (.n none .z (.n none .z (.n (some [6, 4, 0]) .z .z))))))
def S230 (c : CV) (a0 a1 a2 : AV) (h : AH) : R :=
qZ h a1 fun v0 =>
qW c (.fn 225 [] []) [a0, v0] h fun v1 h2 =>
qw (α := AV × AV × AV × AV × Unit → AH → List Nat → R) (fun s3 h4 d5 =>
qW c (.fn 166 [] []) [s3.2.2.2.1, (iI 2)] h4 fun v7 h8 =>
qq .add v7 (iI 0) fun v9 =>
qZ h8 s3.2.2.1 fun v10 =>
qW c (.fn 167 [] []) [s3.2.2.2.1, v9, v10] h8 fun _ h12 =>
qq .add v7 (iI 1) fun v13 =>
qW c (.fn 168 [] []) [s3.2.2.2.1, v13, (iI 0)] h12 fun _ h15 =>
qw (α := AV × AV × AV × Unit → AH → List Nat → R) (fun s16 h17 d18 =>
qq .add s16.2.1 (iI 1) fun v20 =>
qW c (.fn 168 [] []) [s16.2.2.1, v20, s16.1] h17 fun _ h22 =>
qP d18 h22 fun h23 =>
some ((.tup []), h23)) fun j19 =>
qq .neq s3.1 (iI 0) fun v24 =>
qj v24 (
qq .add s3.2.1 (iI 1) fun v25 =>
qW c (.fn 225 [] []) [s3.2.2.2.1, v25] h15 fun v26 h27 =>
qq .add v26 (iI 1) fun v28 =>
qW c (.fn 168 [] []) [s3.2.2.2.1, v28, v7] h27 fun _ h30 =>
j19 (v7, s3.2.1, s3.2.2.2.1, ()) h30 d5) (
qq .add s3.2.1 (iI 0) fun v31 =>
qW c (.fn 168 [] []) [s3.2.2.2.1, v31, v7] h15 fun _ h33 =>
j19 (v7, s3.2.1, s3.2.2.2.1, ()) h33 d5)) fun j6 =>
qq .neq v1 (iI 0) fun v34 =>
qj v34 (
qq .add v1 (iI 0) fun v35 =>
qW c (.fn 225 [] []) [a0, v35] h2 fun v36 h37 =>
j6 (v36, v1, a2, a0, ()) h37 []) (
qW c (.fn 164 [] []) [a0] h2 fun v38 h39 =>
qj v38 (
qW c (.fn 166 [] []) [a0, (iI 2)] h39 fun v40 h41 =>
qZ h41 a1 fun v42 =>
qW c (.fn 168 [] []) [a0, v42, v40] h41 fun _ h44 =>
j6 ((iI 0), v40, a2, a0, ()) h44 []) (
j6 ((iI 0), v1, a2, a0, ()) h39 []))
theorem S230_eq (c : CV) (a0 a1 a2 : AV) (h : AH) : qg Tryz.prog NN P230 c 230 [a0, a1, a2] h = S230 c a0 a1 a2 h := by kernel_rfl
def W230 : WF := w_3 S230
theorem W230_ok : WOk Tryz.prog 230 W230 := jf (pl := P230) fun _ _ _ _ _ => by rw [S230_eq]
def P231 : Pl := .z
def S231 (c : CV) (a0 a1 a2 a3 : AV) (h : AH) : R :=
qZ h a1 fun v0 =>
qW c (.fn 225 [] []) [a0, v0] h fun v1 h2 =>
qq .eql v1 (iI 0) fun v3 =>
qj v3 (
some ((.tup []), h2)) (
qq .add v1 (iI 0) fun v4 =>
qW c (.fn 225 [] []) [a0, v4] h2 fun v5 h6 =>
qq .eql v5 (iI 0) fun v7 =>
qj v7 (
some ((.tup []), h6)) (
qq .add v5 (iI 0) fun v8 =>
qW c (.fn 170 [] []) [a0, v8] h6 fun v9 h10 =>
qv h10 a2 v9 1 fun h11 =>
qv h11 a3 (.bool true) 1 fun h12 =>
qq .add v1 (iI 0) fun v13 =>
qq .add v5 (iI 1) fun v14 =>
qW c (.fn 170 [] []) [a0, v14] h12 fun v15 h16 =>
qW c (.fn 167 [] []) [a0, v13, v15] h16 fun _ h18 =>
qW c (.fn 171 [] []) [a0, v5] h18 fun _ h20 =>
some ((.tup []), h20)))
theorem S231_eq (c : CV) (a0 a1 a2 a3 : AV) (h : AH) : qg Tryz.prog NN P231 c 231 [a0, a1, a2, a3] h = S231 c a0 a1 a2 a3 h := by kernel_rfl
def W231 : WF := w_4 S231
theorem W231_ok : WOk Tryz.prog 231 W231 := yg (pl := P231) fun _ _ _ _ _ _ => by rw [S231_eq]
def P232 : Pl := (.n none .z (.n none .z (.n none .z (.n none (.r [[6]]) .z))))
def S232 (c : CV) (a0 a1 a2 : AV) (h : AH) : R :=
qq .eql a1 (iI 0) fun v0 =>
qj v0 (
qC a0 fun v1 =>
qJ v1 0 fun v2 =>
qZ h v2 fun v3 =>
qW c (.fn 226 [] []) [v3, (iI 2)] h fun _ h5 =>
some ((iI 0), h5)) (
qq .eql a2 (iI 1) fun v6 =>
qj v6 (
qC a0 fun v7 =>
qJ v7 0 fun v8 =>
qZ h v8 fun v9 =>
qq .add a1 (iI 3) fun v10 =>
qW c (.fn 225 [] []) [v9, v10] h fun v11 h12 =>
some (v11, h12)) (
qw (α := AV × Unit → AH → R) (fun s13 h14 =>
some (s13.1, h14)) fun j15 =>
qC a0 fun v16 =>
qJ v16 0 fun v17 =>
qZ h v17 fun v18 =>
qC a0 fun v19 =>
qJ v19 0 fun v20 =>
qZ h v20 fun v21 =>
qq .add a1 (iI 2) fun v22 =>
qW c (.fn 170 [] []) [v21, v22] h fun v23 h24 =>
xg .shr v23 (uU 1) fun v25 =>
qW c (.fn 252 [] []) [v18, v25] h24 fun v26 h27 =>
zQ v17 none v18 h h24 h.nx <|
j15 (v26, ()) h27))
theorem S232_eq (c : CV) (a0 a1 a2 : AV) (h : AH) : qg Tryz.prog NN P232 c 232 [a0, a1, a2] h = S232 c a0 a1 a2 h := by kernel_rfl
def W232 : WF := w_3 S232
theorem W232_ok : WOk Tryz.prog 232 W232 := jf (pl := P232) fun _ _ _ _ _ => by rw [S232_eq]
def P233 : Pl := (.n none .z (.r [[]]))
def S233 (c : CV) (a0 a1 a2 a3 : AV) (h : AH) : R :=
qq .eql a2 (iI 1) fun v0 =>
qj v0 (
qC a0 fun v1 =>
qJ v1 0 fun v2 =>
qZ h v2 fun v3 =>
qq .add a1 (iI 3) fun v4 =>
qW c (.fn 168 [] []) [v3, v4, a3] h fun _ h6 =>
some ((.tup []), h6)) (
qw (α := Unit → AH → R) (fun _ h8 =>
some ((.tup []), h8)) fun j9 =>
qC a0 fun v10 =>
qJ v10 0 fun v11 =>
qZ h v11 fun v12 =>
qq .add a1 (iI 2) fun v13 =>
jE .u64 a3 fun v14 =>
xg .shl v14 (uU 1) fun v15 =>
qC a0 fun v16 =>
qJ v16 0 fun v17 =>
qZ h v17 fun v18 =>
qq .add a1 (iI 2) fun v19 =>
qW c (.fn 170 [] []) [v18, v19] h fun v20 h21 =>
qq .and v20 (uU 1) fun v22 =>
qq .or v15 v22 fun v23 =>
qW c (.fn 167 [] []) [v12, v13, v23] h21 fun _ h25 =>
zQ v11 none v12 h h21 h.nx <|
j9 (()) h25)
theorem S233_eq (c : CV) (a0 a1 a2 a3 : AV) (h : AH) : qg Tryz.prog NN P233 c 233 [a0, a1, a2, a3] h = S233 c a0 a1 a2 a3 h := by kernel_rfl
def W233 : WF := w_4 S233
theorem W233_ok : WOk Tryz.prog 233 W233 := yg (pl := P233) fun _ _ _ _ _ _ => by rw [S233_eq]
def P234 : Pl := (.n none .z (.n none (.r [[16, 7]]) .z))
def S234 (c : CV) (a0 a1 : AV) (h : AH) : R :=
qq .neq a1 (iI 0) fun v0 =>
qw (α := AV × AV × Unit → AH → R) (fun s1 h2 =>
qn s1.2.1 s1.1 (.bool false) fun v4 =>
some (v4, h2)) fun j3 =>
qe v0 true (
qC a0 fun v5 =>
qJ v5 0 fun v6 =>
qZ h v6 fun v7 =>
qq .add a1 (iI 2) fun v8 =>
qW c (.fn 170 [] []) [v7, v8] h fun v9 h10 =>
qq .and v9 (uU 1) fun v11 =>
qq .eql v11 (uU 1) fun v12 =>
j3 (v12, v0, ()) h10) (
j3 (.undef, v0, ()) h)
theorem S234_eq (c : CV) (a0 a1 : AV) (h : AH) : qg Tryz.prog NN P234 c 234 [a0, a1] h = S234 c a0 a1 h := by kernel_rfl
def W234 : WF := w_2 S234
theorem W234_ok : WOk Tryz.prog 234 W234 := jg (pl := P234) fun _ _ _ _ => by rw [S234_eq]
def P235 : Pl := (.n none .z (.n (some [5, 0]) (.n none .z (.n none (.r [[5, 0]]) .z)) .z))
def S235 (c : CV) (a0 a1 a2 : AV) (h : AH) : R :=
q9 h 265 a1 fun v0 h1 =>
q9 h1 265 a2 fun v2 h3 =>
qw (α := AV × AV × Unit → AH → List Nat → R) (fun s4 h5 d6 =>
qJ s4.1 0 fun v8 =>
qZ h5 v8 fun v9 =>
qJ s4.1 1 fun v10 =>
qZ h5 v10 fun v11 =>
qq .sub (iI 1) v11 fun v12 =>
qW c (.fn 253 [] []) [s4.2.1, v9, v12] h5 fun v13 h14 =>
qW c (.fn 236 [] []) [s4.2.1, v13, (.bool false)] h14 fun _ h16 =>
qJ s4.1 0 fun v17 =>
qZ h16 v17 fun v18 =>
qW c (.fn 236 [] []) [s4.2.1, v18, (.bool true)] h16 fun _ h20 =>
qC s4.2.1 fun v21 =>
qJ v21 2 fun v22 =>
qZ h20 v22 fun v23 =>
qr v23 fun v24 =>
qq .sub v24 (iI 2) fun v25 =>
qW c (.fn 186 [] []) [s4.2.1, v25, v13] h20 fun _ h27 =>
qP d6 h27 fun h28 =>
some ((.tup []), h28)) fun j7 =>
qJ v0 1 fun v29 =>
qZ h3 v29 fun v30 =>
qJ v2 1 fun v31 =>
qZ h3 v31 fun v32 =>
qq .neq v30 v32 fun v33 =>
qj v33 (
qw (α := AV × AV × Unit → AH → R) (fun s34 h35 =>
j7 (s34.1, s34.2.1, ()) h35 []) fun j36 =>
qJ v2 0 fun v37 =>
qZ h3 v37 fun v38 =>
qJ v2 1 fun v39 =>
qZ h3 v39 fun v40 =>
qJ v0 0 fun v41 =>
qZ h3 v41 fun v42 =>
qJ v2 1 fun v43 =>
qZ h3 v43 fun v44 =>
qW c (.fn 253 [] []) [a0, v42, v44] h3 fun v45 h46 =>
qW c (.fn 233 [] []) [a0, v38, v40, v45] h46 fun _ h48 =>
zQ v39 none v40 h3 h46 h3.nx <|
zQ v37 none v38 h3 h46 h3.nx <|
j36 (v2, a0, ()) h48) (
j7 (v2, a0, ()) h3 [])
theorem S235_eq (c : CV) (a0 a1 a2 : AV) (h : AH) : qg Tryz.prog NN P235 c 235 [a0, a1, a2] h = S235 c a0 a1 a2 h := by kernel_rfl
def W235 : WF := w_3 S235
theorem W235_ok : WOk Tryz.prog 235 W235 := jf (pl := P235) fun _ _ _ _ _ => by rw [S235_eq]
def P236 : Pl := .z
def S236 (c : CV) (a0 a1 a2 : AV) (h : AH) : R :=
qq .eql a1 (iI 0) fun v0 =>
qj v0 (
qC a0 fun v1 =>
qJ v1 0 fun v2 =>
qZ h v2 fun v3 =>
qW c (.fn 226 [] []) [v3, (iI 2)] h fun _ h5 =>
some ((.tup []), h5)) (
qC a0 fun v6 =>
qJ v6 0 fun v7 =>
qZ h v7 fun v8 =>
qq .add a1 (iI 2) fun v9 =>
qW c (.fn 170 [] []) [v8, v9] h fun v10 h11 =>
qq .and v10 (uU 1) fun v12 =>
qq .eql v12 (uU 1) fun v13 =>
pEq .bool true v13 a2 fun v14 =>
qj v14 (
qC a0 fun v15 =>
qJ v15 0 fun v16 =>
qZ h11 v16 fun v17 =>
qq .add a1 (iI 2) fun v18 =>
qq .xor v10 (uU 1) fun v19 =>
qW c (.fn 167 [] []) [v17, v18, v19] h11 fun _ h21 =>
some ((.tup []), h21)) (
some ((.tup []), h11)))
theorem S236_eq (c : CV) (a0 a1 a2 : AV) (h : AH) : qg Tryz.prog NN P236 c 236 [a0, a1, a2] h = S236 c a0 a1 a2 h := by kernel_rfl
def W236 : WF := w_3 S236
theorem W236_ok : WOk Tryz.prog 236 W236 := jf (pl := P236) fun _ _ _ _ _ => by rw [S236_eq]
def P237 : Pl := (.n none .z (.n none .z (.n none .z (.n none (.n (some [1]) (.n (some [1, 0]) .z .z) .z) .z))))
def S237 (c : CV) (a0 a1 : AV) (h : AH) : R :=
qC a0 fun v0 =>
qJ v0 2 fun v1 =>
qZ h v1 fun v2 =>
qm [(iI 0), (iI 0)] [(0, 1, a1), (1, 1, (iI 1))] fun v3 =>
q8 h 265 [(iI 0), (iI 0)] 1 [(0, 2, v3)] fun v4 h5 =>
jX h5 265 2 v2 v4 fun v6 h7 =>
qC a0 fun v8 =>
qJ v8 2 fun v9 =>
qv h7 v9 v6 1 fun h10 =>
qW c (.fn 232 [] []) [a0, a1, (iI 1)] h10 fun v11 h12 =>
qw (α := AV × Unit → AH → List Nat → R) (fun s13 h14 d15 =>
qP d15 h14 fun h17 =>
some (s13.1, h17)) fun j16 =>
jd (σ := AV × AV × Unit) NN (fun i21 s18 h19 d20 =>
qC s18.2.1 fun v22 =>
qJ v22 0 fun v23 =>
qZ h19 v23 fun v24 =>
qW c (.fn 224 [] []) [v24] h19 fun v25 h26 =>
qj v25 (
qW c (.fn 232 [] []) [s18.2.1, s18.1, (iI 0)] h26 fun v27 h28 =>
qq .eql v27 (iI 0) fun v29 =>
qj v29 (
j16 (s18.1, ()) h28 d20) (
qC s18.2.1 fun v30 =>
qJ v30 2 fun v31 =>
qZ h28 v31 fun v32 =>
qm [(iI 0), (iI 0)] [(0, 1, s18.1), (1, 1, (iI 0))] fun v33 =>
q8 h28 265 [(iI 0), (iI 0)] 1 [(0, 2, v33)] fun v34 h35 =>
jX h35 265 2 v32 v34 fun v36 h37 =>
qC s18.2.1 fun v38 =>
qJ v38 2 fun v39 =>
qv h37 v39 v36 1 fun h40 =>
i21 (v27, s18.2.1, ()) h40 d20)) (
j16 (s18.1, ()) h26 d20)) (v11, a0, ()) h12 []
theorem S237_eq (c : CV) (a0 a1 : AV) (h : AH) : qg Tryz.prog NN P237 c 237 [a0, a1] h = S237 c a0 a1 h := by kernel_rfl
def W237 : WF := w_2 S237
theorem W237_ok : WOk Tryz.prog 237 W237 := jg (pl := P237) fun _ _ _ _ => by rw [S237_eq]
def P238 : Pl := (.n none (.n (some [0]) (.n none (.n none (.r [[16, 11, 0]]) .z) (.n (some [0]) (.n none .z (.n none .z (.n none .z (.n none .z (.n none (.n none (.r [[90, 85, 4, 3, 2, 0]]) .z) .z))))) .z)) .z) .z)
def S238 (c : CV) (a0 : AV) (h : AH) : R :=
jd (σ := AV × Unit) NN (fun i3 s0 h1 d2 =>
qC s0.1 fun v4 =>
qJ v4 2 fun v5 =>
qZ h1 v5 fun v6 =>
qr v6 fun v7 =>
qq .gtr v7 (iI 0) fun v8 =>
qw (α := AV × AV × AV × Unit → AH → R) (fun s9 h10 =>
qn s9.2.1 s9.1 (.bool false) fun v12 =>
qj v12 (
qw (α := AV × Unit → AH → List Nat → R) (fun s13 h14 d15 =>
i3 (s13.1, ()) h14 d15) fun j16 =>
qC s9.2.2.1 fun v17 =>
qJ v17 2 fun v18 =>
qZ h10 v18 fun v19 =>
qr v19 fun v20 =>
qC s9.2.2.1 fun v21 =>
qJ v21 2 fun v22 =>
qZ h10 v22 fun v23 =>
qq .sub v20 (iI 1) fun v24 =>
jK v23 v24 2 fun v25 =>
qT h10 v25 2 fun v26 =>
q9 h10 265 (.agg [(iI 0), (iI 0)]) fun v27 h28 =>
qv h28 v27 v26 2 fun h29 =>
qJ v27 0 fun v30 =>
qZ h29 v30 fun v31 =>
qJ v27 1 fun v32 =>
qZ h29 v32 fun v33 =>
qq .sub (iI 1) v33 fun v34 =>
qW c (.fn 232 [] []) [s9.2.2.1, v31, v34] h29 fun v35 h36 =>
qW c (.fn 234 [] []) [s9.2.2.1, v35] h36 fun v37 h38 =>
qj v37 (
qJ v27 0 fun v39 =>
qZ h38 v39 fun v40 =>
qJ v27 1 fun v41 =>
qZ h38 v41 fun v42 =>
qW c (.fn 253 [] []) [s9.2.2.1, v40, v42] h38 fun _ h44 =>
qW c (.fn 236 [] []) [s9.2.2.1, v35, (.bool false)] h44 fun _ h46 =>
qJ v27 0 fun v47 =>
qZ h46 v47 fun v48 =>
qW c (.fn 236 [] []) [s9.2.2.1, v48, (.bool true)] h46 fun _ h50 =>
qq .sub v20 (iI 1) fun v51 =>
qW c (.fn 186 [] []) [s9.2.2.1, v51, v35] h50 fun _ h53 =>
qC s9.2.2.1 fun v54 =>
qJ v54 2 fun v55 =>
qZ h53 v55 fun v56 =>
qq .sub v20 (iI 1) fun v57 =>
qJ v27 1 fun v58 =>
qZ h53 v58 fun v59 =>
qm [(iI 0), (iI 0)] [(0, 1, v35), (1, 1, v59)] fun v60 =>
jK v56 v57 2 fun v61 =>
qv h53 v61 v60 2 fun h62 =>
qC s9.2.2.1 fun v63 =>
qJ v63 2 fun v64 =>
qZ h62 v64 fun v65 =>
qT h62 v27 2 fun v66 =>
q8 h62 265 [(iI 0), (iI 0)] 1 [(0, 2, v66)] fun v67 h68 =>
jX h68 265 2 v65 v67 fun v69 h70 =>
qC s9.2.2.1 fun v71 =>
qJ v71 2 fun v72 =>
qv h70 v72 v69 1 fun h73 =>
j16 (s9.2.2.1, ()) h73 d2) (
qW c (.fn 232 [] []) [s9.2.2.1, v35, (iI 0)] h38 fun v74 h75 =>
qW c (.fn 234 [] []) [s9.2.2.1, v74] h75 fun v76 h77 =>
qw (α := AV × AV × AV × AV × AV × AV × Unit → AH → R) (fun s78 h79 =>
qn s78.2.1 (.bool true) s78.1 fun v81 =>
qj v81 (
qT h79 s78.2.2.2.1 2 fun v82 =>
qW c (.fn 254 [] []) [s78.2.2.2.2.2.1, v82, s78.2.2.1] h79 fun _ h84 =>
qP d2 h84 fun h85 =>
some ((.tup []), h85)) (
qW c (.fn 236 [] []) [s78.2.2.2.2.2.1, s78.2.2.1, (.bool true)] h79 fun _ h87 =>
qJ s78.2.2.2.1 0 fun v88 =>
qZ h87 v88 fun v89 =>
qW c (.fn 234 [] []) [s78.2.2.2.2.2.1, v89] h87 fun v90 h91 =>
qj v90 (
qJ s78.2.2.2.1 0 fun v92 =>
qZ h91 v92 fun v93 =>
qW c (.fn 236 [] []) [s78.2.2.2.2.2.1, v93, (.bool false)] h91 fun _ h95 =>
qP d2 h95 fun h96 =>
some ((.tup []), h96)) (
qC s78.2.2.2.2.2.1 fun v97 =>
qJ v97 2 fun v98 =>
qZ h91 v98 fun v99 =>
qq .sub s78.2.2.2.2.1 (iI 1) fun v100 =>
ju h91 265 2 v99 none (some v100) fun v101 =>
qC s78.2.2.2.2.2.1 fun v102 =>
qJ v102 2 fun v103 =>
qv h91 v103 v101 1 fun h104 =>
j16 (s78.2.2.2.2.2.1, ()) h104 d2))) fun j80 =>
qe v76 false (
qW c (.fn 232 [] []) [s9.2.2.1, v35, (iI 1)] h77 fun v105 h106 =>
qW c (.fn 234 [] []) [s9.2.2.1, v105] h106 fun v107 h108 =>
j80 (v107, v76, v35, v27, v20, s9.2.2.1, ()) h108) (
j80 (.undef, v76, v35, v27, v20, s9.2.2.1, ()) h77))) (
qP d2 h10 fun h109 =>
some ((.tup []), h109))) fun j11 =>
qe v8 true (
qC s0.1 fun v110 =>
qJ v110 0 fun v111 =>
qZ h1 v111 fun v112 =>
qW c (.fn 224 [] []) [v112] h1 fun v113 h114 =>
j11 (v113, v8, s0.1, ()) h114) (
j11 (.undef, v8, s0.1, ()) h1)) (a0, ()) h []
theorem S238_eq (c : CV) (a0 : AV) (h : AH) : qg Tryz.prog NN P238 c 238 [a0] h = S238 c a0 h := by kernel_rfl
def W238 : WF := w_1 S238
theorem W238_ok : WOk Tryz.prog 238 W238 := jY (pl := P238) fun _ _ _ => by rw [S238_eq]
def P239 : Pl := (.n none .z (.n none .z (.n none (.n none .z (.n none (.n (some [15, 14, 13, 3]) .z .z) .z)) .z)))
def S239 (c : CV) (a0 : AV) (h : AH) : R :=
qC a0 fun v0 =>
qJ v0 0 fun v1 =>
qZ h v1 fun v2 =>
qC a0 fun v3 =>
qJ v3 1 fun v4 =>
qZ h v4 fun v5 =>
qr v5 fun v6 =>
jd (σ := AV × AV × AV × AV × Unit) NN (fun i10 s7 h8 d9 =>
qq .lss s7.1 s7.2.1 fun v11 =>
qj v11 (
jK s7.2.2.1 s7.1 1 fun v12 =>
qZ h8 v12 fun v13 =>
qC v13 fun v14 =>
qJ v14 0 fun v15 =>
qZ h8 v15 fun v16 =>
qW c (.fn 255 [] []) [v16] h8 fun v17 h18 =>
qq .sub s7.2.2.2.1 v17 fun v19 =>
qq .add s7.1 (iI 1) fun v20 =>
i10 (v20, s7.2.1, s7.2.2.1, v19, ()) h18 d9) (
qP d9 h8 fun h21 =>
some (s7.2.2.2.1, h21))) ((iI 0), v6, v5, v2, ()) h []
theorem S239_eq (c : CV) (a0 : AV) (h : AH) : qg Tryz.prog NN P239 c 239 [a0] h = S239 c a0 h := by kernel_rfl
def W239 : WF := w_1 S239
theorem W239_ok : WOk Tryz.prog 239 W239 := jY (pl := P239) fun _ _ _ => by rw [S239_eq]
def P240 : Pl := (.n none .z (.n none (.n none (.r [[7, 5, 0]]) .z) .z))
def S240 (_ : CV) (a0 : AV) (h : AH) : R :=
qq .lss a0 (iI 1) fun v0 =>
qw (α := AV × AV × AV × Unit → AH → R) (fun s1 h2 =>
qn s1.2.1 (.bool true) s1.1 fun v4 =>
qj v4 (
some ((iI 0), h2)) (
xg .shl (iI 1) s1.2.2.1 fun v5 =>
some (v5, h2))) fun j3 =>
qe v0 false (
qq .gtr a0 (iI 4) fun v6 =>
j3 (v6, v0, a0, ()) h) (
j3 (.undef, v0, a0, ()) h)
theorem S240_eq (c : CV) (a0 : AV) (h : AH) : qg Tryz.prog NN P240 c 240 [a0] h = S240 c a0 h := by kernel_rfl
def W240 : WF := w_1 S240
theorem W240_ok : WOk Tryz.prog 240 W240 := jY (pl := P240) fun _ _ _ => by rw [S240_eq]
def P241 : Pl := .z
def S241 (c : CV) (a0 a1 : AV) (h : AH) : R :=
qW c (.fn 222 [] []) [a0] h fun v0 h1 =>
qC v0 fun v2 =>
qJ v2 1 fun v3 =>
qZ h1 v3 fun v4 =>
q8 h1 3 [(iI 0)] 1 [(0, 1, a1)] fun v5 h6 =>
jX h6 3 1 v4 v5 fun v7 h8 =>
qC v0 fun v9 =>
qJ v9 1 fun v10 =>
qv h8 v10 v7 1 fun h11 =>
some ((.tup []), h11)
theorem S241_eq (c : CV) (a0 a1 : AV) (h : AH) : qg Tryz.prog NN P241 c 241 [a0, a1] h = S241 c a0 a1 h := by kernel_rfl
def W241 : WF := w_2 S241
theorem W241_ok : WOk Tryz.prog 241 W241 := jg (pl := P241) fun _ _ _ _ => by rw [S241_eq]
def P242 : Pl := (.n none .z (.n none .z (.n none (.r [[]]) .z)))
def S242 (c : CV) (a0 : AV) (h : AH) : R :=
qC a0 fun v0 =>
qJ v0 1 fun v1 =>
qZ h v1 fun v2 =>
qr v2 fun v3 =>
qq .geq v3 (iI 6) fun v4 =>
qj v4 (
some ((iI 9), h)) (
qw (α := Unit → AH → R) (fun _ h6 =>
some ((iI 0), h6)) fun j7 =>
qC a0 fun v8 =>
qJ v8 1 fun v9 =>
qZ h v9 fun v10 =>
qW c (.fn 81 [] []) [] h fun v11 h12 =>
q8 h12 136 [.nilp] 1 [(0, 1, v11)] fun v13 h14 =>
jX h14 136 1 v10 v13 fun v15 h16 =>
qC a0 fun v17 =>
qJ v17 1 fun v18 =>
qv h16 v18 v15 1 fun h19 =>
zQ v9 none v10 h h12 h.nx <|
j7 (()) h19)
theorem S242_eq (c : CV) (a0 : AV) (h : AH) : qg Tryz.prog NN P242 c 242 [a0] h = S242 c a0 h := by kernel_rfl
def W242 : WF := w_1 S242
theorem W242_ok : WOk Tryz.prog 242 W242 := jY (pl := P242) fun _ _ _ => by rw [S242_eq]
def P246 : Pl := .z
def S246 (_ : CV) (a0 : AV) (h : AH) : R :=
qq .sub a0 (iI 1) fun v0 =>
qq .and a0 v0 fun v1 =>
qq .eql v1 (iI 0) fun v2 =>
some (v2, h)
theorem S246_eq (c : CV) (a0 : AV) (h : AH) : qg Tryz.prog NN P246 c 246 [a0] h = S246 c a0 h := by kernel_rfl
def W246 : WF := w_1 S246
theorem W246_ok : WOk Tryz.prog 246 W246 := jY (pl := P246) fun _ _ _ => by rw [S246_eq]
def P247 : Pl := .z
def S247 (c : CV) (a0 : AV) (h : AH) : R :=
qj (.bool false) (
jE .u32 a0 fun v0 =>
qW c (.fn 256 [] []) [v0] h fun v1 h2 =>
some (v1, h2)) (
qW c (.fn 257 [] []) [a0] h fun v3 h4 =>
some (v3, h4))
theorem S247_eq (c : CV) (a0 : AV) (h : AH) : qg Tryz.prog NN P247 c 247 [a0] h = S247 c a0 h := by kernel_rfl
def W247 : WF := w_1 S247
theorem W247_ok : WOk Tryz.prog 247 W247 := jY (pl := P247) fun _ _ _ => by rw [S247_eq]
def P249 : Pl := (.n none .z (.n none (.n none .z (.n none (.n (some [8, 7, 1, 0]) .z .z) .z)) .z))
def S249 (c : CV) (a0 a1 : AV) (h : AH) : R :=
qr a0 fun v0 =>
jd (σ := AV × AV × AV × AV × Unit) NN (fun i4 s1 h2 d3 =>
qq .lss s1.1 s1.2.1 fun v5 =>
qj v5 (
jK s1.2.2.2.1 s1.1 2 fun v6 =>
qT h2 v6 2 fun v7 =>
qW c s1.2.2.1 [v7] h2 fun v8 h9 =>
qj v8 (
qP d3 h9 fun h10 =>
some (s1.1, h10)) (
qq .add s1.1 (iI 1) fun v11 =>
i4 (v11, s1.2.1, s1.2.2.1, s1.2.2.2.1, ()) h9 d3)) (
qP d3 h2 fun h12 =>
some ((.int .i64 (.negSucc 0)), h12))) ((iI 0), v0, a1, a0, ()) h []
theorem S249_eq (c : CV) (a0 a1 : AV) (h : AH) : qg Tryz.prog NN P249 c 249 [a0, a1] h = S249 c a0 a1 h := by kernel_rfl
def W249 : WF := w_2 S249
theorem W249_ok : WOk Tryz.prog 249 W249 := jg (pl := P249) fun _ _ _ _ => by rw [S249_eq]
def P250 : Pl := .z
def S250 (_ : CV) (a0 a1 : AV) (h : AH) : R :=
q9 h 67 a0 fun v0 h1 =>
qJ v0 0 fun v2 =>
qZ h1 v2 fun v3 =>
qZ h1 a1 fun v4 =>
qq .eql v3 v4 fun v5 =>
some (v5, h1)
theorem S250_eq (c : CV) (a0 a1 : AV) (h : AH) : qg Tryz.prog NN P250 c 250 [a0, a1] h = S250 c a0 a1 h := by kernel_rfl
def W250 : WF := w_2 S250
theorem W250_ok : WOk Tryz.prog 250 W250 := jg (pl := P250) fun _ _ _ _ => by rw [S250_eq]
def P251 : Pl := (.n none .z (.n none .z (.n none (.n none .z (.n none (.n (some [17, 16, 15, 3, 0]) .z .z) .z)) .z)))
def S251 (_ : CV) (a0 : AV) (h : AH) : R :=
qC a0 fun v0 =>
qJ v0 1 fun v1 =>
qZ h v1 fun v2 =>
qr v2 fun v3 =>
yJ h 67 [(iI 0), (uU 0)] (iI 0) v3 fun v4 h5 =>
qC a0 fun v6 =>
qJ v6 1 fun v7 =>
qZ h5 v7 fun v8 =>
qr v8 fun v9 =>
jd (σ := AV × AV × AV × AV × AV × Unit) NN (fun i13 s10 h11 d12 =>
qq .lss s10.1 s10.2.1 fun v14 =>
qj v14 (
jK s10.2.2.1 s10.1 1 fun v15 =>
qZ h11 v15 fun v16 =>
qC s10.2.2.2.2.1 fun v17 =>
qJ v17 0 fun v18 =>
qZ h11 v18 fun v19 =>
jK v19 v16 2 fun v20 =>
qJ v20 0 fun v21 =>
qZ h11 v21 fun v22 =>
qm [(iI 0), (uU 0)] [(0, 1, v16), (1, 1, v22)] fun v23 =>
q8 h11 67 [(iI 0), (uU 0)] 1 [(0, 2, v23)] fun v24 h25 =>
jX h25 67 2 s10.2.2.2.1 v24 fun v26 h27 =>
qq .add s10.1 (iI 1) fun v28 =>
i13 (v28, s10.2.1, s10.2.2.1, v26, s10.2.2.2.2.1, ()) h27 d12) (
qP d12 h11 fun h29 =>
some (s10.2.2.2.1, h29))) ((iI 0), v9, v8, v4, a0, ()) h5 []
theorem S251_eq (c : CV) (a0 : AV) (h : AH) : qg Tryz.prog NN P251 c 251 [a0] h = S251 c a0 h := by kernel_rfl
def W251 : WF := w_1 S251
theorem W251_ok : WOk Tryz.prog 251 W251 := jY (pl := P251) fun _ _ _ => by rw [S251_eq]
def P252 : Pl := .z
def S252 (c : CV) (a0 a1 : AV) (h : AH) : R :=
qq .geq a1 (uU 2147483648) fun v0 =>
qj v0 (
qW c (.fn 226 [] []) [a0, (iI 2)] h fun _ h2 =>
some ((iI 0), h2)) (
jE .i64 a1 fun v3 =>
some (v3, h))
theorem S252_eq (c : CV) (a0 a1 : AV) (h : AH) : qg Tryz.prog NN P252 c 252 [a0, a1] h = S252 c a0 a1 h := by kernel_rfl
def W252 : WF := w_2 S252
theorem W252_ok : WOk Tryz.prog 252 W252 := jg (pl := P252) fun _ _ _ _ => by rw [S252_eq]
def P253 : Pl := .z
def S253 (c : CV) (a0 a1 a2 : AV) (h : AH) : R :=
qq .sub (iI 1) a2 fun v0 =>
qW c (.fn 232 [] []) [a0, a1, v0] h fun v1 h2 =>
qq .sub (iI 1) a2 fun v3 =>
qW c (.fn 232 [] []) [a0, v1, a2] h2 fun v4 h5 =>
qW c (.fn 233 [] []) [a0, a1, v3, v4] h5 fun _ h7 =>
qW c (.fn 233 [] []) [a0, v1, a2, a1] h7 fun _ h9 =>
some (v1, h9)
theorem S253_eq (c : CV) (a0 a1 a2 : AV) (h : AH) : qg Tryz.prog NN P253 c 253 [a0, a1, a2] h = S253 c a0 a1 a2 h := by kernel_rfl
def W253 : WF := w_3 S253
theorem W253_ok : WOk Tryz.prog 253 W253 := jf (pl := P253) fun _ _ _ _ _ => by rw [S253_eq]
def P254 : Pl := (.n none .z (.n (some [4, 2, 0]) .z .z))
def S254 (c : CV) (a0 a1 a2 : AV) (h : AH) : R :=
q9 h 265 a1 fun v0 h1 =>
qw (α := AV × AV × AV × Unit → AH → List Nat → R) (fun s2 h3 d4 =>
qJ s2.1 0 fun v6 =>
qZ h3 v6 fun v7 =>
qJ s2.1 1 fun v8 =>
qZ h3 v8 fun v9 =>
qW c (.fn 253 [] []) [s2.2.2.1, v7, v9] h3 fun _ h11 =>
qJ s2.1 0 fun v12 =>
qZ h11 v12 fun v13 =>
qW c (.fn 234 [] []) [s2.2.2.1, v13] h11 fun v14 h15 =>
qW c (.fn 236 [] []) [s2.2.2.1, s2.2.1, v14] h15 fun _ h17 =>
qJ s2.1 0 fun v18 =>
qZ h17 v18 fun v19 =>
qW c (.fn 236 [] []) [s2.2.2.1, v19, (.bool false)] h17 fun _ h21 =>
qJ s2.1 1 fun v22 =>
qZ h21 v22 fun v23 =>
qq .sub (iI 1) v23 fun v24 =>
qW c (.fn 232 [] []) [s2.2.2.1, s2.2.1, v24] h21 fun v25 h26 =>
qW c (.fn 236 [] []) [s2.2.2.1, v25, (.bool false)] h26 fun _ h28 =>
qC s2.2.2.1 fun v29 =>
qJ v29 2 fun v30 =>
qZ h28 v30 fun v31 =>
qr v31 fun v32 =>
qq .sub v32 (iI 1) fun v33 =>
qW c (.fn 186 [] []) [s2.2.2.1, v33, s2.2.1] h28 fun _ h35 =>
qP d4 h35 fun h36 =>
some ((.tup []), h36)) fun j5 =>
qJ v0 1 fun v37 =>
qZ h1 v37 fun v38 =>
qq .sub (iI 1) v38 fun v39 =>
qW c (.fn 232 [] []) [a0, a2, v39] h1 fun v40 h41 =>
qW c (.fn 234 [] []) [a0, v40] h41 fun v42 h43 =>
pUn .not v42 fun v44 =>
qj v44 (
qJ v0 1 fun v45 =>
qZ h43 v45 fun v46 =>
qq .sub (iI 1) v46 fun v47 =>
qW c (.fn 253 [] []) [a0, a2, v47] h43 fun v48 h49 =>
qJ v0 0 fun v50 =>
qZ h49 v50 fun v51 =>
qJ v0 1 fun v52 =>
qZ h49 v52 fun v53 =>
qq .sub (iI 1) v53 fun v54 =>
qW c (.fn 233 [] []) [a0, v51, v54, v48] h49 fun _ h56 =>
qW c (.fn 236 [] []) [a0, v48, (.bool false)] h56 fun _ h58 =>
qW c (.fn 236 [] []) [a0, a2, (.bool true)] h58 fun _ h60 =>
j5 (v0, v48, a0, ()) h60 []) (
j5 (v0, a2, a0, ()) h43 [])
theorem S254_eq (c : CV) (a0 a1 a2 : AV) (h : AH) : qg Tryz.prog NN P254 c 254 [a0, a1, a2] h = S254 c a0 a1 a2 h := by kernel_rfl
def W254 : WF := w_3 S254
theorem W254_ok : WOk Tryz.prog 254 W254 := jf (pl := P254) fun _ _ _ _ _ => by rw [S254_eq]
def P255 : Pl := .z
def S255 (_ : CV) (a0 : AV) (h : AH) : R :=
qC a0 fun v0 =>
qJ v0 1 fun v1 =>
qZ h v1 fun v2 =>
qr v2 fun v3 =>
some (v3, h)
theorem S255_eq (c : CV) (a0 : AV) (h : AH) : qg Tryz.prog NN P255 c 255 [a0] h = S255 c a0 h := by kernel_rfl
def W255 : WF := w_1 S255
theorem W255_ok : WOk Tryz.prog 255 W255 := jY (pl := P255) fun _ _ _ => by rw [S255_eq]
def P256 : Pl := .z
def S256 (_ : CV) (a0 : AV) (h : AH) : R :=
qq .eql a0 (.int .u32 (.ofNat 0)) fun v0 =>
qj v0 (
some ((iI 32), h)) (
pUn .neg a0 fun v1 =>
qq .and a0 v1 fun v2 =>
qq .mul v2 (.int .u32 (.ofNat 125613361)) fun v3 =>
xg .shr v3 (uU 27) fun _ =>
none /- op -/)
theorem S256_eq (c : CV) (a0 : AV) (h : AH) : qg Tryz.prog NN P256 c 256 [a0] h = S256 c a0 h := by kernel_rfl
def W256 : WF := w_1 S256
theorem W256_ok : WOk Tryz.prog 256 W256 := jY (pl := P256) fun _ _ _ => by rw [S256_eq]
def P257 : Pl := .z
def S257 (_ : CV) (a0 : AV) (h : AH) : R :=
qq .eql a0 (uU 0) fun v0 =>
qj v0 (
some ((iI 64), h)) (
pUn .neg a0 fun v1 =>
qq .and a0 v1 fun v2 =>
qq .mul v2 (uU 285870213051353865) fun v3 =>
xg .shr v3 (uU 58) fun _ =>
none /- op -/)
theorem S257_eq (c : CV) (a0 : AV) (h : AH) : qg Tryz.prog NN P257 c 257 [a0] h = S257 c a0 h := by kernel_rfl
def W257 : WF := w_1 S257
theorem W257_ok : WOk Tryz.prog 257 W257 := jY (pl := P257) fun _ _ _ => by rw [S257_eq]
def Q0 : Pl := (.n none .z .z)
def B0 (c : CV) (l : Nat) (v0 _ a1 : AV) (h : AH) : R :=
Qd h l fun h100 =>
qW c (.fn 100 [] []) [(iI 96)] h100 fun v101 h102 =>
qC a1 fun v103 =>
qJ v103 0 fun v104 =>
qZ h102 v104 fun v105 =>
qW c (.fn 102 [] []) [v105] h102 fun v106 h107 =>
qW c (.fn 101 [] []) [v101, v106] h107 fun _ h109 =>
qZ h109 v0 fun v110 =>
qW c (.fn 101 [] []) [v101, v110] h109 fun _ h112 =>
qW c (.fn 102 [] []) [v101] h112 fun v113 h114 =>
qv h114 v0 v113 1 fun h115 =>
z7 h115 l none
theorem B0_eq (c : CV) (l : Nat) (v0 a0 a1 : AV) (h : AH) : Jd Tryz.prog NN Q0 c 69 [1, 1, 0, 1, 0] [3] l [v0] [a0, a1] h = B0 c l v0 a0 a1 h := by kernel_rfl
def V0 (c : CV) (l : Nat) (x y : List AV) (h : AH) : R := match x, y with | [v0], [a0, a1] => B0 c l v0 a0 a1 h | _, _ => none
theorem V0_ok : VOk Tryz.prog 69 [1, 1, 0, 1, 0] [3] V0 := by
 intro c l x y h r e
 unfold V0 at e
 split at e
 ·exact ⟨Q0, by rw [B0_eq]; exact e⟩
 ·cases e
def Q1 : Pl := (.n none .z .z)
def B1 (c : CV) (l : Nat) (v0 v1 v2 _ a1 : AV) (h : AH) : R :=
Qd h l fun h100 =>
qC a1 fun v101 =>
qJ v101 0 fun v102 =>
qZ h100 v102 fun v103 =>
qZ h100 v2 fun v104 =>
qW c (.fn 221 [] []) [v103, v104] h100 fun v105 h106 =>
qB v105 0 fun v107 =>
qB v105 1 fun v108 =>
qj v108 (
qv h106 v1 v107 1 fun h109 =>
qv h109 v0 (.bool true) 1 fun h110 =>
z7 h110 l (some .ret)) (
z7 h106 l none)
theorem B1_eq (c : CV) (l : Nat) (v0 v1 v2 a0 a1 : AV) (h : AH) : Jd Tryz.prog NN Q1 c 157 [1, 0, 1, 0] [5, 4, 3] l [v0, v1, v2] [a0, a1] h = B1 c l v0 v1 v2 a0 a1 h := by kernel_rfl
def V1 (c : CV) (l : Nat) (x y : List AV) (h : AH) : R := match x, y with | [v0, v1, v2], [a0, a1] => B1 c l v0 v1 v2 a0 a1 h | _, _ => none
theorem V1_ok : VOk Tryz.prog 157 [1, 0, 1, 0] [5, 4, 3] V1 := by
 intro c l x y h r e
 unfold V1 at e
 split at e
 ·exact ⟨Q1, by rw [B1_eq]; exact e⟩
 ·cases e
end
end Go.Proofs.YtdlfmpmpmkffjaaGreatDoor
