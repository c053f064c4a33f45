/- Printed by a program of mine: the bodies of the program's functions aa terms of the primitives of the abstract executor, each shown equal by the kernel. -/
import Derived.Test.YtdlfmpmpmkffjaaGreatDoorProg
import Derived.Test.YtdlfmpmpmkffjaaGreatDoorInterpWaysAe1
import Derived.KernelRfl
namespace Go.Proofs.YtdlfmpmpmkffjaaGreatDoor
open Go Go.Ae
abbrev u9_1 : Type := AV × AV × AV × AV × AV × AV × AV × AV × AV × Unit
abbrev u7_1 : Type := AV × AV × AV × AV × AV × AV × AV × Unit
abbrev u5_1 : Type := AV × AV × AV × AV × AV × Unit
abbrev u4_1 : Type := AV × AV × AV × AV × Unit
abbrev u3_1 : Type := AV × AV × AV × Unit
abbrev u2_1 : Type := AV × AV × Unit
set_option maxRecDepth 100000
noncomputable section
def P195 : Pl := (.n none .z (.n none .z (.n none (.n none .z (.n none (.n (some [3, 0]) .z .z) .z)) .z)))
def S195 (c : CV) (a0 : AV) (h : AH) : R :=
qq .lss a0 (iI 1) fun v0 =>
qz v0 (
some ((iI 0), h)) (
zJ (σ := u2_1) NN (fun i4 s1 h2 d3 =>
qq .leq s1.1 (iI 4) fun v5 =>
qz v5 (
qG c (.fn 240 [] []) [s1.1] h2 fun v6 h7 =>
qq .geq v6 s1.2.1 fun v8 =>
qz v8 (
qT d3 h7 fun h9 =>
some (s1.1, h9)) (
qq .add s1.1 (iI 1) fun v10 =>
i4 (v10, s1.2.1, ()) h7 d3)) (
qT d3 h2 fun h11 =>
some ((iI 0), h11))) ((iI 1), a0, ()) h [])
def W195 : WF := w_1 S195
theorem W195_ok : WOk Tryz.prog 195 W195 := jk (pl := P195) fun _ _ _ => by kernel_rfl
def P196 : Pl := (.n none .z (.n none .z (.n none .z (.n none .z (.n (some [10, 8]) .z .z)))))
def S196 (c : CV) (a0 a1 a2 : AV) (h : AH) : R :=
qq .geq a2 (uU 2147483648) fun v0 =>
qz v0 (
some ((.tup [(iI 0), (iI 2)]), h)) (
jR .i64 a2 fun v1 =>
qG c (.fn 109 [] []) [a0, v1] h fun v2 h3 =>
qD v2 0 fun v4 =>
qD v2 1 fun v5 =>
qE (α := u2_1 → AH → List Nat → R) (fun s6 h7 d8 =>
qq .neq s6.1 (iI 0) fun v10 =>
qz v10 (
qT d8 h7 fun h11 =>
some ((.tup [(iI 0), s6.1]), h11)) (
qT d8 h7 fun h12 =>
some ((.tup [s6.2.1, (iI 0)]), h12))) fun j9 =>
qq .eql v5 (iI 0) fun v13 =>
qz v13 (
qG c (.fn 110 [] []) [a1] h3 fun v14 h15 =>
qm [(iI 0), (uU 0)] [(0, 1, v14), (1, 1, v4)] fun v16 =>
qq .sub v1 (iI 1) fun v17 =>
qq .add a1 (iI 8) fun v18 =>
jR .u64 v18 fun v19 =>
qm [(iI 0), (uU 0)] [(0, 1, v17), (1, 1, v19)] fun v20 =>
qp h15 67 [(iI 0), (uU 0)] 2 [(0, 2, v16), (2, 2, v20)] fun v21 h22 =>
qG c (.fn 111 [] []) [a0, v21] h22 fun v23 h24 =>
j9 (v23, v1, ()) h24 []) (
j9 (v5, v1, ()) h3 []))
def W196 : WF := w_3 S196
theorem W196_ok : WOk Tryz.prog 196 W196 := zZ (pl := P196) fun _ _ _ _ _ => by kernel_rfl
def P197 : Pl := (.n none .z (.n none .z (.n none .z (.n none (.n none (.r [[22, 20, 6, 1, 0], [33, 24, 6, 1, 0]]) .z) .z))))
def S197 (c : CV) (a0 a1 : AV) (h : AH) : R :=
qG c (.fn 109 [] []) [a0, (iI 5)] h fun v0 h1 =>
qD v0 0 fun v2 =>
qD v0 1 fun v3 =>
qq .neq v3 (iI 0) fun v4 =>
qz v4 (
some ((.tup [(iI 0), v3]), h1)) (
qq .lss v2 (uU 14) fun v5 =>
qE (α := u5_1 → AH → R) (fun s6 h7 =>
qn s6.2.1 (.bool true) s6.1 fun v9 =>
qE (α := u5_1 → AH → R) (fun s10 h11 =>
qn s10.2.1 (.bool true) s10.1 fun v13 =>
qz v13 (
some ((.tup [(iI 0), (iI 4)]), h11)) (
jR .i64 s10.2.2.1 fun v14 =>
qq .add v14 (iI 1) fun v15 =>
qG c (.fn 240 [] []) [s10.2.2.2.1] h11 fun v16 h17 =>
qq .add v15 v16 fun v18 =>
jR .u64 v18 fun v19 =>
qm [(iI 0), (uU 0)] [(0, 1, (iI 5)), (1, 1, v19)] fun v20 =>
qq .add s10.2.2.2.1 (iI 8) fun v21 =>
jR .u64 v21 fun v22 =>
qm [(iI 0), (uU 0)] [(0, 1, v14), (1, 1, v22)] fun v23 =>
qp h17 67 [(iI 0), (uU 0)] 2 [(0, 2, v20), (2, 2, v23)] fun v24 h25 =>
qG c (.fn 111 [] []) [s10.2.2.2.2.1, v24] h25 fun v26 h27 =>
qq .neq v26 (iI 0) fun v28 =>
qz v28 (
some ((.tup [(iI 0), v26]), h27)) (
qq .add v14 (iI 1) fun v29 =>
some ((.tup [v29, (iI 0)]), h27)))) fun j12 =>
qi v9 false (
jR .i64 s6.2.2.1 fun v30 =>
qq .add v30 (iI 1) fun v31 =>
qG c (.fn 240 [] []) [s6.2.2.2.1] h7 fun v32 h33 =>
qq .add v31 v32 fun v34 =>
qG c (.fn 107 [] []) [s6.2.2.2.2.1] h33 fun v35 h36 =>
qq .gtr v34 v35 fun v37 =>
j12 (v37, v9, s6.2.2.1, s6.2.2.2.1, s6.2.2.2.2.1, ()) h36) (
j12 (.undef, v9, s6.2.2.1, s6.2.2.2.1, s6.2.2.2.2.1, ()) h7)) fun j8 =>
qi v5 false (
qq .geq v2 (uU 2147483648) fun v38 =>
j8 (v38, v5, v2, a1, a0, ()) h1) (
j8 (.undef, v5, v2, a1, a0, ()) h1))
def W197 : WF := w_2 S197
theorem W197_ok : WOk Tryz.prog 197 W197 := jC (pl := P197) fun _ _ _ _ => by kernel_rfl
def P198 : Pl := .z
def S198 (c : CV) (a0 a1 : AV) (h : AH) : R :=
qF a0 fun v0 =>
qJ v0 2 fun v1 =>
qX h v1 fun v2 =>
qG c (.fn 241 [] []) [v2, a1] h fun _ h4 =>
some ((.tup []), h4)
def W198 : WF := w_2 S198
theorem W198_ok : WOk Tryz.prog 198 W198 := jC (pl := P198) fun _ _ _ _ => by kernel_rfl
def P199 : Pl := .z
def S199 (c : CV) (a0 : AV) (h : AH) : R :=
qF a0 fun v0 =>
qJ v0 2 fun v1 =>
qX h v1 fun v2 =>
qG c (.fn 242 [] []) [v2] h fun v3 h4 =>
some (v3, h4)
def W199 : WF := w_1 S199
theorem W199_ok : WOk Tryz.prog 199 W199 := jk (pl := P199) fun _ _ _ => by kernel_rfl
def P200 : Pl := .z
def S200 (_ : CV) (a0 : AV) (h : AH) : R :=
qF a0 fun v0 =>
qJ v0 0 fun v1 =>
qX h v1 fun v2 =>
q9 v2 fun v3 =>
some (v3, h)
def W200 : WF := w_1 S200
theorem W200_ok : WOk Tryz.prog 200 W200 := jk (pl := P200) fun _ _ _ => by kernel_rfl
def P201 : Pl := (.n none .z (.n none .z (.n none .z (.n none .z (.n none .z (.n none (.r [[2]]) .z))))))
def S201 (c : CV) (a0 : AV) (h : AH) : R :=
qG c (.fn 222 [] []) [a0] h fun v0 h1 =>
qG c (.fn 203 [] []) [a0] h1 fun v2 h3 =>
qq .neq v2 (iI 0) fun v4 =>
qz v4 (
some (v2, h3)) (
qG c (.fn 222 [] []) [a0] h3 fun v5 h6 =>
qF v5 fun v7 =>
qJ v7 1 fun v8 =>
qX h6 v8 fun v9 =>
qF v0 fun v10 =>
qJ v10 1 fun v11 =>
qX h6 v11 fun v12 =>
q8 h6 3 1 v9 v12 fun v13 h14 =>
qF v5 fun v15 =>
qJ v15 1 fun v16 =>
qy h14 v16 v13 1 fun h17 =>
qE (α := AV × Unit → AH → R) (fun s18 h19 =>
some (s18.1, h19)) fun j20 =>
qF v5 fun v21 =>
qJ v21 0 fun v22 =>
qX h17 v22 fun v23 =>
qF v0 fun v24 =>
qJ v24 0 fun v25 =>
qX h17 v25 fun v26 =>
qG c (.fn 102 [] []) [v26] h17 fun v27 h28 =>
qG c (.fn 101 [] []) [v23, v27] h28 fun v29 h30 =>
zx v22 none v23 h17 h28 h17.nx <|
j20 (v29, ()) h30)
def W201 : WF := w_1 S201
theorem W201_ok : WOk Tryz.prog 201 W201 := jk (pl := P201) fun _ _ _ => by kernel_rfl
def P202 : Pl := .z
def S202 (c : CV) (a0 a1 : AV) (h : AH) : R :=
qF a0 fun v0 =>
qJ v0 0 fun v1 =>
qX h v1 fun v2 =>
qF a0 fun v3 =>
qJ v3 0 fun v4 =>
qX h v4 fun v5 =>
q9 v5 fun v6 =>
pMM false [a1, v6] fun v7 =>
pMM true [(iI 0), v7] fun v8 =>
zi h 20 1 v2 none (some v8) fun v9 =>
qG c (.fn 88 [] []) [v9] h fun v10 h11 =>
qF a0 fun v12 =>
qJ v12 0 fun v13 =>
qy h11 v13 v10 1 fun h14 =>
some ((.tup []), h14)
def W202 : WF := w_2 S202
theorem W202_ok : WOk Tryz.prog 202 W202 := jC (pl := P202) fun _ _ _ _ => by kernel_rfl
def P203 : Pl := .z
def S203 (_ : CV) (a0 : AV) (h : AH) : R :=
qF a0 fun v0 =>
qJ v0 1 fun v1 =>
qX h v1 fun v2 =>
q9 v2 fun v3 =>
qq .eql v3 (iI 1) fun v4 =>
qz v4 (
some ((iI 10), h)) (
qF a0 fun v5 =>
qJ v5 1 fun v6 =>
qX h v6 fun v7 =>
qF a0 fun v8 =>
qJ v8 1 fun v9 =>
qX h v9 fun v10 =>
q9 v10 fun v11 =>
qq .sub v11 (iI 1) fun v12 =>
zi h 136 1 v7 none (some v12) fun v13 =>
qF a0 fun v14 =>
qJ v14 1 fun v15 =>
qy h v15 v13 1 fun h16 =>
some ((iI 0), h16))
def W203 : WF := w_1 S203
theorem W203_ok : WOk Tryz.prog 203 W203 := jk (pl := P203) fun _ _ _ => by kernel_rfl
def P204 : Pl := .z
def S204 (_ : CV) (a0 : AV) (h : AH) : R :=
qq .lss a0 (iI 10) fun v0 =>
qz v0 (
qq .add a0 (iI 1) fun v1 =>
gG (.str [48, 49, 50, 51, 52, 53, 54, 55, 56, 57, 97, 98, 99, 100, 101, 102, 103, 104, 105, 106, 107, 108, 109, 110, 111, 112, 113, 114, 115, 116, 117, 118, 119, 120, 121, 122]) (some a0) (some v1) fun v2 =>
some (v2, h)) (
qq .mul a0 (iI 2) fun v3 =>
qq .mul a0 (iI 2) fun v4 =>
qq .add v4 (iI 2) fun v5 =>
gG (.str [48, 48, 48, 49, 48, 50, 48, 51, 48, 52, 48, 53, 48, 54, 48, 55, 48, 56, 48, 57, 49, 48, 49, 49, 49, 50, 49, 51, 49, 52, 49, 53, 49, 54, 49, 55, 49, 56, 49, 57, 50, 48, 50, 49, 50, 50, 50, 51, 50, 52, 50, 53, 50, 54, 50, 55, 50, 56, 50, 57, 51, 48, 51, 49, 51, 50, 51, 51, 51, 52, 51, 53, 51, 54, 51, 55, 51, 56, 51, 57, 52, 48, 52, 49, 52, 50, 52, 51, 52, 52, 52, 53, 52, 54, 52, 55, 52, 56, 52, 57, 53, 48, 53, 49, 53, 50, 53, 51, 53, 52, 53, 53, 53, 54, 53, 55, 53, 56, 53, 57, 54, 48, 54, 49, 54, 50, 54, 51, 54, 52, 54, 53, 54, 54, 54, 55, 54, 56, 54, 57, 55, 48, 55, 49, 55, 50, 55, 51, 55, 52, 55, 53, 55, 54, 55, 55, 55, 56, 55, 57, 56, 48, 56, 49, 56, 50, 56, 51, 56, 52, 56, 53, 56, 54, 56, 55, 56, 56, 56, 57, 57, 48, 57, 49, 57, 50, 57, 51, 57, 52, 57, 53, 57, 54, 57, 55, 57, 56, 57, 57]) (some v3) (some v5) fun v6 =>
some (v6, h))
def W204 : WF := w_1 S204
theorem W204_ok : WOk Tryz.prog 204 W204 := jk (pl := P204) fun _ _ _ => by kernel_rfl
def P207 : Pl := (.n none .z (.n (some [11, 10, 4, 3, 2, 1, 0]) (.n none (.r [[23, 21, 11, 10, 4, 3, 2, 1, 0], [27, 25, 11, 10, 4, 3, 2, 1, 0]]) .z) (.n none .z (.n none .z (.n (some [13, 12, 11, 10, 4, 3, 2, 1, 0]) .z (.n (some [13, 12, 11, 10, 4, 3, 0]) (.n none .z (.n none (.n none .z (.n none .z (.n none .z (.n none (.n none (.n (some [16, 15, 14, 13, 12, 11, 10, 4, 3, 1, 0]) .z .z) .z) .z)))) (.n none .z (.n none (.n none (.n (some [17, 13, 12, 11, 10, 4, 3, 1, 0]) .z .z) .z) .z)))) (.n (some [13, 12, 11, 10, 4, 0]) .z .z)))))))
def S207 (c : CV) (a0 a1 a2 a3 a4 : AV) (h : AH) : R :=
qE (α := u7_1 → AH → List Nat → R) (fun s0 h1 d2 =>
jX h1 275 (.agg [(.int .u8 (.ofNat 0)), (.int .u8 (.ofNat 0)), (.int .u8 (.ofNat 0)), (.int .u8 (.ofNat 0)), (.int .u8 (.ofNat 0)), (.int .u8 (.ofNat 0)), (.int .u8 (.ofNat 0)), (.int .u8 (.ofNat 0)), (.int .u8 (.ofNat 0)), (.int .u8 (.ofNat 0)), (.int .u8 (.ofNat 0)), (.int .u8 (.ofNat 0)), (.int .u8 (.ofNat 0)), (.int .u8 (.ofNat 0)), (.int .u8 (.ofNat 0)), (.int .u8 (.ofNat 0)), (.int .u8 (.ofNat 0)), (.int .u8 (.ofNat 0)), (.int .u8 (.ofNat 0)), (.int .u8 (.ofNat 0)), (.int .u8 (.ofNat 0)), (.int .u8 (.ofNat 0)), (.int .u8 (.ofNat 0)), (.int .u8 (.ofNat 0)), (.int .u8 (.ofNat 0)), (.int .u8 (.ofNat 0)), (.int .u8 (.ofNat 0)), (.int .u8 (.ofNat 0)), (.int .u8 (.ofNat 0)), (.int .u8 (.ofNat 0)), (.int .u8 (.ofNat 0)), (.int .u8 (.ofNat 0)), (.int .u8 (.ofNat 0)), (.int .u8 (.ofNat 0)), (.int .u8 (.ofNat 0)), (.int .u8 (.ofNat 0)), (.int .u8 (.ofNat 0)), (.int .u8 (.ofNat 0)), (.int .u8 (.ofNat 0)), (.int .u8 (.ofNat 0)), (.int .u8 (.ofNat 0)), (.int .u8 (.ofNat 0)), (.int .u8 (.ofNat 0)), (.int .u8 (.ofNat 0)), (.int .u8 (.ofNat 0)), (.int .u8 (.ofNat 0)), (.int .u8 (.ofNat 0)), (.int .u8 (.ofNat 0)), (.int .u8 (.ofNat 0)), (.int .u8 (.ofNat 0)), (.int .u8 (.ofNat 0)), (.int .u8 (.ofNat 0)), (.int .u8 (.ofNat 0)), (.int .u8 (.ofNat 0)), (.int .u8 (.ofNat 0)), (.int .u8 (.ofNat 0)), (.int .u8 (.ofNat 0)), (.int .u8 (.ofNat 0)), (.int .u8 (.ofNat 0)), (.int .u8 (.ofNat 0)), (.int .u8 (.ofNat 0)), (.int .u8 (.ofNat 0)), (.int .u8 (.ofNat 0)), (.int .u8 (.ofNat 0)), (.int .u8 (.ofNat 0))]) fun v4 h5 =>
qE (α := u9_1 → AH → List Nat → R) (fun s6 h7 d8 =>
qE (α := u7_1 → AH → List Nat → R) (fun s10 h11 d12 =>
qE (α := AV × AV × AV × AV × AV × AV × Unit → AH → List Nat → R) (fun s14 h15 d16 =>
qz s14.2.2.2.2.1 (
yy 65 1 s14.2.1 (some s14.1) none fun v18 =>
q8 h15 5 1 s14.2.2.2.2.2.1 v18 fun v19 h20 =>
qT d16 h20 fun h21 =>
some ((.tup [v19, s14.2.2.1]), h21)) (
yy 65 1 s14.2.1 (some s14.1) none fun v22 =>
Gw h15 v22 fun v23 =>
qT d16 h15 fun h24 =>
some ((.tup [s14.2.2.2.1, v23]), h24))) fun j17 =>
qz s10.2.2.2.2.2.1 (
qq .sub s10.1 (iI 1) fun v25 =>
yU s10.2.1 v25 65 1 fun v26 =>
qy h11 v26 (.int .u8 (.ofNat 45)) 1 fun h27 =>
j17 (v25, s10.2.1, s10.2.2.1, s10.2.2.2.1, s10.2.2.2.2.1, s10.2.2.2.2.2.2.1, ()) h27 d12) (
j17 (s10.1, s10.2.1, s10.2.2.1, s10.2.2.2.1, s10.2.2.2.2.1, s10.2.2.2.2.2.2.1, ()) h11 d12)) fun j13 =>
qG c (.fn 246 [] []) [s6.2.2.2.2.2.2.1] h7 fun v28 h29 =>
qz v28 (
jR .u64 s6.2.2.2.2.2.2.1 fun v30 =>
qG c (.fn 247 [] []) [v30] h29 fun v31 h32 =>
jR .u64 v31 fun v33 =>
jR .u64 s6.2.2.2.2.2.2.1 fun v34 =>
jR .u64 s6.2.2.2.2.2.2.1 fun v35 =>
qq .sub v35 (uU 1) fun v36 =>
zJ (σ := AV × AV × AV × AV × AV × AV × AV × AV × AV × AV × AV × Unit) NN (fun i40 s37 h38 d39 =>
qq .geq s37.2.2.2.2.2.2.2.2.2.1 s37.2.1 fun v41 =>
qz v41 (
qq .sub s37.2.2.2.1 (iI 1) fun v42 =>
qq .and s37.2.2.2.2.2.2.2.2.2.1 s37.1 fun v43 =>
gX (.str [48, 49, 50, 51, 52, 53, 54, 55, 56, 57, 97, 98, 99, 100, 101, 102, 103, 104, 105, 106, 107, 108, 109, 110, 111, 112, 113, 114, 115, 116, 117, 118, 119, 120, 121, 122]) v43 fun v44 =>
yU s37.2.2.2.2.1 v42 65 1 fun v45 =>
qy h38 v45 v44 1 fun h46 =>
xd .shr s37.2.2.2.2.2.2.2.2.2.1 s37.2.2.1 fun v47 =>
i40 (s37.1, s37.2.1, s37.2.2.1, v42, s37.2.2.2.2.1, s37.2.2.2.2.2.1, s37.2.2.2.2.2.2.1, s37.2.2.2.2.2.2.2.1, s37.2.2.2.2.2.2.2.2.1, v47, s37.2.2.2.2.2.2.2.2.2.2.1, ()) h46 d39) (
qq .sub s37.2.2.2.1 (iI 1) fun v48 =>
gX (.str [48, 49, 50, 51, 52, 53, 54, 55, 56, 57, 97, 98, 99, 100, 101, 102, 103, 104, 105, 106, 107, 108, 109, 110, 111, 112, 113, 114, 115, 116, 117, 118, 119, 120, 121, 122]) s37.2.2.2.2.2.2.2.2.2.1 fun v49 =>
yU s37.2.2.2.2.1 v48 65 1 fun v50 =>
qy h38 v50 v49 1 fun h51 =>
j13 (v48, s37.2.2.2.2.1, s37.2.2.2.2.2.1, s37.2.2.2.2.2.2.1, s37.2.2.2.2.2.2.2.1, s37.2.2.2.2.2.2.2.2.1, s37.2.2.2.2.2.2.2.2.2.2.1, ()) h51 d39)) (v36, v34, v33, s6.1, s6.2.1, s6.2.2.1, s6.2.2.2.1, s6.2.2.2.2.1, s6.2.2.2.2.2.1, s6.2.2.2.2.2.2.2.1, s6.2.2.2.2.2.2.2.2.1, ()) h32 d8) (
jR .u64 s6.2.2.2.2.2.2.1 fun v52 =>
zJ (σ := u9_1) NN (fun i56 s53 h54 d55 =>
qq .geq s53.2.2.2.2.2.2.2.1 s53.1 fun v57 =>
qz v57 (
qq .sub s53.2.1 (iI 1) fun v58 =>
qq .quo s53.2.2.2.2.2.2.2.1 s53.1 fun v59 =>
qq .mul v59 s53.1 fun v60 =>
qq .sub s53.2.2.2.2.2.2.2.1 v60 fun v61 =>
gX (.str [48, 49, 50, 51, 52, 53, 54, 55, 56, 57, 97, 98, 99, 100, 101, 102, 103, 104, 105, 106, 107, 108, 109, 110, 111, 112, 113, 114, 115, 116, 117, 118, 119, 120, 121, 122]) v61 fun v62 =>
yU s53.2.2.1 v58 65 1 fun v63 =>
qy h54 v63 v62 1 fun h64 =>
i56 (s53.1, v58, s53.2.2.1, s53.2.2.2.1, s53.2.2.2.2.1, s53.2.2.2.2.2.1, s53.2.2.2.2.2.2.1, v59, s53.2.2.2.2.2.2.2.2.1, ()) h64 d55) (
qq .sub s53.2.1 (iI 1) fun v65 =>
gX (.str [48, 49, 50, 51, 52, 53, 54, 55, 56, 57, 97, 98, 99, 100, 101, 102, 103, 104, 105, 106, 107, 108, 109, 110, 111, 112, 113, 114, 115, 116, 117, 118, 119, 120, 121, 122]) s53.2.2.2.2.2.2.2.1 fun v66 =>
yU s53.2.2.1 v65 65 1 fun v67 =>
qy h54 v67 v66 1 fun h68 =>
j13 (v65, s53.2.2.1, s53.2.2.2.1, s53.2.2.2.2.1, s53.2.2.2.2.2.1, s53.2.2.2.2.2.2.1, s53.2.2.2.2.2.2.2.2.1, ()) h68 d55)) (v52, s6.1, s6.2.1, s6.2.2.1, s6.2.2.2.1, s6.2.2.2.2.1, s6.2.2.2.2.2.1, s6.2.2.2.2.2.2.2.1, s6.2.2.2.2.2.2.2.2.1, ()) h29 d8)) fun j9 =>
qz s0.2.2.2.1 (
pUn .neg s0.2.2.2.2.2.1 fun v69 =>
j9 ((iI 65), v4, s0.1, s0.2.1, s0.2.2.1, s0.2.2.2.1, s0.2.2.2.2.1, v69, s0.2.2.2.2.2.2.1, ()) h5 d2) (
j9 ((iI 65), v4, s0.1, s0.2.1, s0.2.2.1, s0.2.2.2.1, s0.2.2.2.2.1, s0.2.2.2.2.2.1, s0.2.2.2.2.2.2.1, ()) h5 d2)) fun j3 =>
qq .lss a2 (iI 2) fun v70 =>
qE (α := u9_1 → AH → R) (fun s71 h72 =>
qn s71.2.1 (.bool true) s71.1 fun v74 =>
qE (α := u9_1 → AH → R) (fun s75 h76 =>
qn s75.2.1 (.bool true) s75.1 fun v78 =>
qz v78 (
none /- op -/) (
j3 (s75.2.2.1, s75.2.2.2.1, s75.2.2.2.2.1, s75.2.2.2.2.2.1, s75.2.2.2.2.2.2.1, s75.2.2.2.2.2.2.2.1, s75.2.2.2.2.2.2.2.2.1, ()) h76 [])) fun j77 =>
qi v74 false (
qq .gtr s71.2.2.2.2.2.2.1 (iI 36) fun v79 =>
j77 (v79, v74, s71.2.2.1, s71.2.2.2.1, s71.2.2.2.2.1, s71.2.2.2.2.2.1, s71.2.2.2.2.2.2.1, s71.2.2.2.2.2.2.2.1, s71.2.2.2.2.2.2.2.2.1, ()) h72) (
j77 (.undef, v74, s71.2.2.1, s71.2.2.2.1, s71.2.2.2.2.1, s71.2.2.2.2.2.1, s71.2.2.2.2.2.2.1, s71.2.2.2.2.2.2.2.1, s71.2.2.2.2.2.2.2.2.1, ()) h72)) fun j73 =>
qi v70 false (
qq .eql a2 (iI 10) fun v80 =>
j73 (v80, v70, (.str []), .nils, a4, a3, a2, a1, a0, ()) h) (
j73 (.undef, v70, (.str []), .nils, a4, a3, a2, a1, a0, ()) h)
def W207 : WF := w_5 S207
theorem W207_ok : WOk Tryz.prog 207 W207 := kQ (pl := P207) fun _ _ _ _ _ _ _ => by kernel_rfl
def P218 : Pl := .z
def S218 (c : CV) (a0 a1 : AV) (h : AH) : R :=
jX h 3 a1 fun v0 h1 =>
qF a0 fun v2 =>
qJ v2 1 fun v3 =>
qX h1 v3 fun v4 =>
qG c (.fn 249 [] []) [v4, (.fn 250 [] [v0])] h1 fun v5 h6 =>
some (v5, h6)
def W218 : WF := w_2 S218
theorem W218_ok : WOk Tryz.prog 218 W218 := jC (pl := P218) fun _ _ _ _ => by kernel_rfl
def P219 : Pl := (.n none .z (.n none (.n none (.r [[11, 7, 1, 0]]) .z) .z))
def S219 (_ : CV) (a0 a1 : AV) (h : AH) : R :=
qq .lss a1 (iI 0) fun v0 =>
qE (α := u4_1 → AH → R) (fun s1 h2 =>
qn s1.2.1 (.bool true) s1.1 fun v4 =>
qz v4 (
some ((.str []), h2)) (
jz s1.2.2.2.1 s1.2.2.1 1 fun v5 =>
qX h2 v5 fun v6 =>
some (v6, h2))) fun j3 =>
qi v0 false (
q9 a0 fun v7 =>
qq .geq a1 v7 fun v8 =>
j3 (v8, v0, a1, a0, ()) h) (
j3 (.undef, v0, a1, a0, ()) h)
def W219 : WF := w_2 S219
theorem W219_ok : WOk Tryz.prog 219 W219 := jC (pl := P219) fun _ _ _ _ => by kernel_rfl
def P220 : Pl := .z
def S220 (_ : CV) (h : AH) : R :=
qp h 9 [(.str [])] 24 [(0, 1, (.str [])), (1, 1, (.str [115, 101, 116])), (2, 1, (.str [109, 111, 118, 101])), (3, 1, (.str [97, 100, 100])), (4, 1, (.str [115, 117, 98])), (5, 1, (.str [109, 117, 108])), (6, 1, (.str [108, 101, 115, 115])), (7, 1, (.str [101, 113, 117, 97, 108])), (8, 1, (.str [108, 111, 97, 100])), (9, 1, (.str [115, 116, 111, 114, 101])), (10, 1, (.str [97, 108, 108, 111, 99])), (11, 1, (.str [102, 114, 101, 101])), (12, 1, (.str [106, 117, 109, 112])), (13, 1, (.str [122, 101, 114, 111])), (14, 1, (.str [111, 112, 101, 110])), (15, 1, (.str [99, 108, 111, 115, 101])), (16, 1, (.str [117, 110, 100, 111])), (17, 1, (.str [101, 105, 116, 104, 101, 114])), (18, 1, (.str [111, 114])), (19, 1, (.str [100, 111, 110, 101])), (20, 1, (.str [114, 101, 116, 114, 121])), (21, 1, (.str [101, 109, 105, 116])), (22, 1, (.str [102, 97, 105, 108])), (23, 1, (.str [99, 97, 108, 108]))] fun v0 h1 =>
some (v0, h1)
def W220 : WF := w_0 S220
theorem W220_ok : WOk Tryz.prog 220 W220 := Gu (pl := P220) fun _ _ => by kernel_rfl
def P221 : Pl := .z
def S221 (c : CV) (a0 a1 : AV) (h : AH) : R :=
qG c (.fn 218 [] []) [a0, a1] h fun v0 h1 =>
qq .geq v0 (iI 0) fun v2 =>
qz v2 (
qF a0 fun v3 =>
qJ v3 1 fun v4 =>
qX h1 v4 fun v5 =>
jz v5 v0 2 fun v6 =>
qJ v6 1 fun v7 =>
qX h1 v7 fun v8 =>
some ((.tup [v8, (.bool true)]), h1)) (
some ((.tup [(uU 0), (.bool false)]), h1))
def W221 : WF := w_2 S221
theorem W221_ok : WOk Tryz.prog 221 W221 := jC (pl := P221) fun _ _ _ _ => by kernel_rfl
def P222 : Pl := .z
def S222 (_ : CV) (a0 : AV) (h : AH) : R :=
qF a0 fun v0 =>
qJ v0 1 fun v1 =>
qX h v1 fun v2 =>
qF a0 fun v3 =>
qJ v3 1 fun v4 =>
qX h v4 fun v5 =>
q9 v5 fun v6 =>
qq .sub v6 (iI 1) fun v7 =>
jz v2 v7 1 fun v8 =>
qX h v8 fun v9 =>
some (v9, h)
def W222 : WF := w_1 S222
theorem W222_ok : WOk Tryz.prog 222 W222 := jk (pl := P222) fun _ _ _ => by kernel_rfl
def P223 : Pl := (.n none .z (.n none .z (.n none (.n none .z (.n none (.n (some [14, 13, 12, 3, 0]) .z .z) .z)) (.n none (.n none .z (.n none (.n (some [28, 27, 26, 3]) .z .z) .z)) .z))))
def S223 (c : CV) (a0 : AV) (h : AH) : R :=
qG c (.fn 107 [] []) [a0] h fun v0 h1 =>
qG c (.fn 11 [] []) [v0, (iI 96)] h1 fun v2 h3 =>
qG c (.fn 31 [] []) [a0] h3 fun v4 h5 =>
q9 v4 fun v6 =>
zJ (σ := u5_1) NN (fun i10 s7 h8 d9 =>
qq .lss s7.1 s7.2.1 fun v11 =>
qz v11 (
jz s7.2.2.1 s7.1 2 fun v12 =>
qR h8 v12 2 fun v13 =>
jX h8 67 (.agg [(iI 0), (uU 0)]) fun v14 h15 =>
qy h15 v14 v13 2 fun h16 =>
qJ v14 0 fun v17 =>
qX h16 v17 fun v18 =>
qJ v14 1 fun v19 =>
qX h16 v19 fun v20 =>
qG c (.fn 15 [] []) [s7.2.2.2.1, v18, v20] h16 fun _ h22 =>
qq .add s7.1 (iI 1) fun v23 =>
i10 (v23, s7.2.1, s7.2.2.1, s7.2.2.2.1, s7.2.2.2.2.1, ()) h22 d9) (
qG c (.fn 251 [] []) [s7.2.2.2.2.1] h8 fun v24 h25 =>
q9 v24 fun v26 =>
zJ (σ := u4_1) NN (fun i30 s27 h28 d29 =>
qq .lss s27.1 s27.2.1 fun v31 =>
qz v31 (
jz s27.2.2.1 s27.1 2 fun v32 =>
qR h28 v32 2 fun v33 =>
jX h28 67 (.agg [(iI 0), (uU 0)]) fun v34 h35 =>
qy h35 v34 v33 2 fun h36 =>
qJ v34 0 fun v37 =>
qX h36 v37 fun v38 =>
qJ v34 1 fun v39 =>
qX h36 v39 fun v40 =>
qG c (.fn 15 [] []) [s27.2.2.2.1, v38, v40] h36 fun _ h42 =>
qq .add s27.1 (iI 1) fun v43 =>
i30 (v43, s27.2.1, s27.2.2.1, s27.2.2.2.1, ()) h42 d29) (
qT d29 h28 fun h44 =>
some (s27.2.2.2.1, h44))) ((iI 0), v26, v24, s7.2.2.2.1, ()) h25 d9)) ((iI 0), v6, v4, v2, a0, ()) h5 []
def W223 : WF := w_1 S223
theorem W223_ok : WOk Tryz.prog 223 W223 := jk (pl := P223) fun _ _ _ => by kernel_rfl
def P224 : Pl := (.n none .z (.n none .z (.n (some [0]) .z .z)))
def S224 (c : CV) (a0 : AV) (h : AH) : R :=
qF a0 fun v0 =>
qJ v0 2 fun v1 =>
qX h v1 fun v2 =>
qq .add v2 (iI 1) fun v3 =>
qF a0 fun v4 =>
qJ v4 2 fun v5 =>
qy h v5 v3 1 fun h6 =>
qE (α := AV × Unit → AH → List Nat → R) (fun s7 h8 d9 =>
qG c (.fn 164 [] []) [s7.1] h8 fun v11 h12 =>
qT d9 h12 fun h13 =>
some (v11, h13)) fun j10 =>
qF a0 fun v14 =>
qJ v14 2 fun v15 =>
qX h6 v15 fun v16 =>
qq .gtr v16 (iI 2048) fun v17 =>
qz v17 (
qG c (.fn 226 [] []) [a0, (iI 2)] h6 fun _ h19 =>
j10 (a0, ()) h19 []) (
j10 (a0, ()) h6 [])
def W224 : WF := w_1 S224
theorem W224_ok : WOk Tryz.prog 224 W224 := jk (pl := P224) fun _ _ _ => by kernel_rfl
def P225 : Pl := .z
def S225 (c : CV) (a0 a1 : AV) (h : AH) : R :=
qG c (.fn 170 [] []) [a0, a1] h fun v0 h1 =>
qG c (.fn 252 [] []) [a0, v0] h1 fun v2 h3 =>
some (v2, h3)
def W225 : WF := w_2 S225
theorem W225_ok : WOk Tryz.prog 225 W225 := jC (pl := P225) fun _ _ _ _ => by kernel_rfl
def P226 : Pl := .z
def S226 (c : CV) (a0 a1 : AV) (h : AH) : R :=
qG c (.fn 164 [] []) [a0] h fun v0 h1 =>
qz v0 (
qF a0 fun v2 =>
qJ v2 1 fun v3 =>
qy h1 v3 a1 1 fun h4 =>
some ((.tup []), h4)) (
some ((.tup []), h1))
def W226 : WF := w_2 S226
theorem W226_ok : WOk Tryz.prog 226 W226 := jC (pl := P226) fun _ _ _ _ => by kernel_rfl
def P227 : Pl := .z
def S227 (_ : CV) (a0 a1 : AV) (h : AH) : R :=
qq .mul a0 (uU 11400714819323198485) fun v0 =>
xd .shr v0 (uU 60) fun v1 =>
jR .i64 v1 fun v2 =>
qq .sub a1 (iI 1) fun v3 =>
qq .and v2 v3 fun v4 =>
some (v4, h)
def W227 : WF := w_2 S227
theorem W227_ok : WOk Tryz.prog 227 W227 := jC (pl := P227) fun _ _ _ _ => by kernel_rfl
def P228 : Pl := (.n none .z (.n none (.n (some [11, 10, 1, 0]) (.n none .z (.n none .z (.n none (.n none (.n none .z (.n none .z (.n none (.n (some [11, 10, 5, 1, 0]) (.n none (.n none (.r [[32, 27, 11, 10, 5, 1, 0]]) .z) .z) .z) .z))) .z) .z))) .z) .z))
def S228 (c : CV) (a0 a1 : AV) (h : AH) : R :=
qF a0 fun v0 =>
qJ v0 2 fun v1 =>
qX h v1 fun v2 =>
zJ (σ := u4_1) NN (fun i6 s3 h4 d5 =>
qq .lss s3.1 s3.2.1 fun v7 =>
qz v7 (
qF s3.2.2.2.1 fun v8 =>
qJ v8 0 fun v9 =>
qX h4 v9 fun v10 =>
qF s3.2.2.2.1 fun v11 =>
qJ v11 3 fun v12 =>
qX h4 v12 fun v13 =>
qq .add v13 s3.1 fun v14 =>
qG c (.fn 225 [] []) [v10, v14] h4 fun v15 h16 =>
zJ (σ := u5_1) NN (fun i20 s17 h18 d19 =>
qq .neq s17.2.2.1 (iI 0) fun v21 =>
qE (α := u7_1 → AH → R) (fun s22 h23 =>
qn s22.2.1 s22.1 (.bool false) fun v25 =>
qz v25 (
qF s22.2.2.2.2.2.2.1 fun v26 =>
qJ v26 0 fun v27 =>
qX h23 v27 fun v28 =>
qq .add s22.2.2.2.2.1 (iI 2) fun v29 =>
qG c (.fn 225 [] []) [v28, v29] h23 fun v30 h31 =>
qG c s22.2.2.2.2.2.1 [s22.2.2.2.2.1] h31 fun _ h33 =>
i20 (s22.2.2.1, s22.2.2.2.1, v30, s22.2.2.2.2.2.1, s22.2.2.2.2.2.2.1, ()) h33 d19) (
qq .add s22.2.2.1 (iI 1) fun v34 =>
i6 (v34, s22.2.2.2.1, s22.2.2.2.2.2.1, s22.2.2.2.2.2.2.1, ()) h23 d19)) fun j24 =>
qi v21 true (
qF s17.2.2.2.2.1 fun v35 =>
qJ v35 0 fun v36 =>
qX h18 v36 fun v37 =>
qG c (.fn 224 [] []) [v37] h18 fun v38 h39 =>
j24 (v38, v21, s17.1, s17.2.1, s17.2.2.1, s17.2.2.2.1, s17.2.2.2.2.1, ()) h39) (
j24 (.undef, v21, s17.1, s17.2.1, s17.2.2.1, s17.2.2.2.1, s17.2.2.2.2.1, ()) h18)) (s3.1, s3.2.1, v15, s3.2.2.1, s3.2.2.2.1, ()) h16 d5) (
qT d5 h4 fun h40 =>
some ((.tup []), h40))) ((iI 0), v2, a1, a0, ()) h []
def W228 : WF := w_2 S228
theorem W228_ok : WOk Tryz.prog 228 W228 := jC (pl := P228) fun _ _ _ _ => by kernel_rfl
def P229 : Pl := (.n none (.r [[5, 3, 1, 0]]) .z)
def S229 (c : CV) (a0 a1 a2 a3 : AV) (h : AH) : R :=
qE (α := u4_1 → AH → R) (fun s0 h1 =>
qX h1 s0.2.2.1 fun v3 =>
qF v3 fun v4 =>
qJ v4 0 fun v5 =>
qX h1 v5 fun v6 =>
qq .add s0.2.2.2.1 (iI 2) fun v7 =>
qX h1 s0.2.1 fun v8 =>
jz v8 s0.1 1 fun v9 =>
qX h1 v9 fun v10 =>
qG c (.fn 168 [] []) [v6, v7, v10] h1 fun _ h12 =>
qX h12 s0.2.1 fun v13 =>
jz v13 s0.1 1 fun v14 =>
qy h12 v14 s0.2.2.2.1 1 fun h15 =>
some ((.tup []), h15)) fun j2 =>
qX h a1 fun v16 =>
qF v16 fun v17 =>
qJ v17 0 fun v18 =>
qX h v18 fun v19 =>
qq .add a0 (iI 0) fun v20 =>
qG c (.fn 170 [] []) [v19, v20] h fun v21 h22 =>
qX h22 a2 fun v23 =>
qG c (.fn 227 [] []) [v21, v23] h22 fun v24 h25 =>
zx a2 none v23 h h22 h.nx <|
j2 (v24, a3, a1, a0, ()) h25
def W229 : WF := w_4 S229
theorem W229_ok : WOk Tryz.prog 229 W229 := yl (pl := P229) fun _ _ _ _ _ _ => by kernel_rfl
def P230 : Pl := (.n none .z (.n (some [5, 4, 2, 0]) .z (.n none .z (.n none .z (.n none .z (.n (some [6, 4, 0]) .z .z))))))
def S230 (c : CV) (a0 a1 a2 : AV) (h : AH) : R :=
qX h a1 fun v0 =>
qG c (.fn 225 [] []) [a0, v0] h fun v1 h2 =>
qE (α := u4_1 → AH → List Nat → R) (fun s3 h4 d5 =>
qG c (.fn 166 [] []) [s3.2.2.2.1, (iI 2)] h4 fun v7 h8 =>
qq .add v7 (iI 0) fun v9 =>
qX h8 s3.2.2.1 fun v10 =>
qG c (.fn 167 [] []) [s3.2.2.2.1, v9, v10] h8 fun _ h12 =>
qq .add v7 (iI 1) fun v13 =>
qG c (.fn 168 [] []) [s3.2.2.2.1, v13, (iI 0)] h12 fun _ h15 =>
qE (α := u3_1 → AH → List Nat → R) (fun s16 h17 d18 =>
qq .add s16.2.1 (iI 1) fun v20 =>
qG c (.fn 168 [] []) [s16.2.2.1, v20, s16.1] h17 fun _ h22 =>
qT d18 h22 fun h23 =>
some ((.tup []), h23)) fun j19 =>
qq .neq s3.1 (iI 0) fun v24 =>
qz v24 (
qq .add s3.2.1 (iI 1) fun v25 =>
qG c (.fn 225 [] []) [s3.2.2.2.1, v25] h15 fun v26 h27 =>
qq .add v26 (iI 1) fun v28 =>
qG c (.fn 168 [] []) [s3.2.2.2.1, v28, v7] h27 fun _ h30 =>
j19 (v7, s3.2.1, s3.2.2.2.1, ()) h30 d5) (
qq .add s3.2.1 (iI 0) fun v31 =>
qG c (.fn 168 [] []) [s3.2.2.2.1, v31, v7] h15 fun _ h33 =>
j19 (v7, s3.2.1, s3.2.2.2.1, ()) h33 d5)) fun j6 =>
qq .neq v1 (iI 0) fun v34 =>
qz v34 (
qq .add v1 (iI 0) fun v35 =>
qG c (.fn 225 [] []) [a0, v35] h2 fun v36 h37 =>
j6 (v36, v1, a2, a0, ()) h37 []) (
qG c (.fn 164 [] []) [a0] h2 fun v38 h39 =>
qz v38 (
qG c (.fn 166 [] []) [a0, (iI 2)] h39 fun v40 h41 =>
qX h41 a1 fun v42 =>
qG c (.fn 168 [] []) [a0, v42, v40] h41 fun _ h44 =>
j6 ((iI 0), v40, a2, a0, ()) h44 []) (
j6 ((iI 0), v1, a2, a0, ()) h39 []))
def W230 : WF := w_3 S230
theorem W230_ok : WOk Tryz.prog 230 W230 := zZ (pl := P230) fun _ _ _ _ _ => by kernel_rfl
def P231 : Pl := .z
def S231 (c : CV) (a0 a1 a2 a3 : AV) (h : AH) : R :=
qX h a1 fun v0 =>
qG c (.fn 225 [] []) [a0, v0] h fun v1 h2 =>
qq .eql v1 (iI 0) fun v3 =>
qz v3 (
some ((.tup []), h2)) (
qq .add v1 (iI 0) fun v4 =>
qG c (.fn 225 [] []) [a0, v4] h2 fun v5 h6 =>
qq .eql v5 (iI 0) fun v7 =>
qz v7 (
some ((.tup []), h6)) (
qq .add v5 (iI 0) fun v8 =>
qG c (.fn 170 [] []) [a0, v8] h6 fun v9 h10 =>
qy h10 a2 v9 1 fun h11 =>
qy h11 a3 (.bool true) 1 fun h12 =>
qq .add v1 (iI 0) fun v13 =>
qq .add v5 (iI 1) fun v14 =>
qG c (.fn 170 [] []) [a0, v14] h12 fun v15 h16 =>
qG c (.fn 167 [] []) [a0, v13, v15] h16 fun _ h18 =>
qG c (.fn 171 [] []) [a0, v5] h18 fun _ h20 =>
some ((.tup []), h20)))
def W231 : WF := w_4 S231
theorem W231_ok : WOk Tryz.prog 231 W231 := yl (pl := P231) fun _ _ _ _ _ _ => by kernel_rfl
def P232 : Pl := (.n none .z (.n none .z (.n none .z (.n none (.r [[6]]) .z))))
def S232 (c : CV) (a0 a1 a2 : AV) (h : AH) : R :=
qq .eql a1 (iI 0) fun v0 =>
qz v0 (
qF a0 fun v1 =>
qJ v1 0 fun v2 =>
qX h v2 fun v3 =>
qG c (.fn 226 [] []) [v3, (iI 2)] h fun _ h5 =>
some ((iI 0), h5)) (
qq .eql a2 (iI 1) fun v6 =>
qz v6 (
qF a0 fun v7 =>
qJ v7 0 fun v8 =>
qX h v8 fun v9 =>
qq .add a1 (iI 3) fun v10 =>
qG c (.fn 225 [] []) [v9, v10] h fun v11 h12 =>
some (v11, h12)) (
qE (α := AV × Unit → AH → R) (fun s13 h14 =>
some (s13.1, h14)) fun j15 =>
qF a0 fun v16 =>
qJ v16 0 fun v17 =>
qX h v17 fun v18 =>
qF a0 fun v19 =>
qJ v19 0 fun v20 =>
qX h v20 fun v21 =>
qq .add a1 (iI 2) fun v22 =>
qG c (.fn 170 [] []) [v21, v22] h fun v23 h24 =>
xd .shr v23 (uU 1) fun v25 =>
qG c (.fn 252 [] []) [v18, v25] h24 fun v26 h27 =>
zx v17 none v18 h h24 h.nx <|
j15 (v26, ()) h27))
def W232 : WF := w_3 S232
theorem W232_ok : WOk Tryz.prog 232 W232 := zZ (pl := P232) fun _ _ _ _ _ => by kernel_rfl
def P233 : Pl := (.n none .z (.r [[]]))
def S233 (c : CV) (a0 a1 a2 a3 : AV) (h : AH) : R :=
qq .eql a2 (iI 1) fun v0 =>
qz v0 (
qF a0 fun v1 =>
qJ v1 0 fun v2 =>
qX h v2 fun v3 =>
qq .add a1 (iI 3) fun v4 =>
qG c (.fn 168 [] []) [v3, v4, a3] h fun _ h6 =>
some ((.tup []), h6)) (
qE (α := Unit → AH → R) (fun _ h8 =>
some ((.tup []), h8)) fun j9 =>
qF a0 fun v10 =>
qJ v10 0 fun v11 =>
qX h v11 fun v12 =>
qq .add a1 (iI 2) fun v13 =>
jR .u64 a3 fun v14 =>
xd .shl v14 (uU 1) fun v15 =>
qF a0 fun v16 =>
qJ v16 0 fun v17 =>
qX h v17 fun v18 =>
qq .add a1 (iI 2) fun v19 =>
qG c (.fn 170 [] []) [v18, v19] h fun v20 h21 =>
qq .and v20 (uU 1) fun v22 =>
qq .or v15 v22 fun v23 =>
qG c (.fn 167 [] []) [v12, v13, v23] h21 fun _ h25 =>
zx v11 none v12 h h21 h.nx <|
j9 (()) h25)
def W233 : WF := w_4 S233
theorem W233_ok : WOk Tryz.prog 233 W233 := yl (pl := P233) fun _ _ _ _ _ _ => by kernel_rfl
def P234 : Pl := (.n none .z (.n none (.r [[16, 7]]) .z))
def S234 (c : CV) (a0 a1 : AV) (h : AH) : R :=
qq .neq a1 (iI 0) fun v0 =>
qE (α := u2_1 → AH → R) (fun s1 h2 =>
qn s1.2.1 s1.1 (.bool false) fun v4 =>
some (v4, h2)) fun j3 =>
qi v0 true (
qF a0 fun v5 =>
qJ v5 0 fun v6 =>
qX h v6 fun v7 =>
qq .add a1 (iI 2) fun v8 =>
qG c (.fn 170 [] []) [v7, v8] h fun v9 h10 =>
qq .and v9 (uU 1) fun v11 =>
qq .eql v11 (uU 1) fun v12 =>
j3 (v12, v0, ()) h10) (
j3 (.undef, v0, ()) h)
def W234 : WF := w_2 S234
theorem W234_ok : WOk Tryz.prog 234 W234 := jC (pl := P234) fun _ _ _ _ => by kernel_rfl
def P235 : Pl := (.n none .z (.n (some [5, 0]) (.n none .z (.n none (.r [[5, 0]]) .z)) .z))
def S235 (c : CV) (a0 a1 a2 : AV) (h : AH) : R :=
jX h 265 a1 fun v0 h1 =>
jX h1 265 a2 fun v2 h3 =>
qE (α := u2_1 → AH → List Nat → R) (fun s4 h5 d6 =>
qJ s4.1 0 fun v8 =>
qX h5 v8 fun v9 =>
qJ s4.1 1 fun v10 =>
qX h5 v10 fun v11 =>
qq .sub (iI 1) v11 fun v12 =>
qG c (.fn 253 [] []) [s4.2.1, v9, v12] h5 fun v13 h14 =>
qG c (.fn 236 [] []) [s4.2.1, v13, (.bool false)] h14 fun _ h16 =>
qJ s4.1 0 fun v17 =>
qX h16 v17 fun v18 =>
qG c (.fn 236 [] []) [s4.2.1, v18, (.bool true)] h16 fun _ h20 =>
qF s4.2.1 fun v21 =>
qJ v21 2 fun v22 =>
qX h20 v22 fun v23 =>
q9 v23 fun v24 =>
qq .sub v24 (iI 2) fun v25 =>
qG c (.fn 186 [] []) [s4.2.1, v25, v13] h20 fun _ h27 =>
qT d6 h27 fun h28 =>
some ((.tup []), h28)) fun j7 =>
qJ v0 1 fun v29 =>
qX h3 v29 fun v30 =>
qJ v2 1 fun v31 =>
qX h3 v31 fun v32 =>
qq .neq v30 v32 fun v33 =>
qz v33 (
qE (α := u2_1 → AH → R) (fun s34 h35 =>
j7 (s34.1, s34.2.1, ()) h35 []) fun j36 =>
qJ v2 0 fun v37 =>
qX h3 v37 fun v38 =>
qJ v2 1 fun v39 =>
qX h3 v39 fun v40 =>
qJ v0 0 fun v41 =>
qX h3 v41 fun v42 =>
qJ v2 1 fun v43 =>
qX h3 v43 fun v44 =>
qG c (.fn 253 [] []) [a0, v42, v44] h3 fun v45 h46 =>
qG c (.fn 233 [] []) [a0, v38, v40, v45] h46 fun _ h48 =>
zx v39 none v40 h3 h46 h3.nx <|
zx v37 none v38 h3 h46 h3.nx <|
j36 (v2, a0, ()) h48) (
j7 (v2, a0, ()) h3 [])
def W235 : WF := w_3 S235
theorem W235_ok : WOk Tryz.prog 235 W235 := zZ (pl := P235) fun _ _ _ _ _ => by kernel_rfl
def P236 : Pl := .z
def S236 (c : CV) (a0 a1 a2 : AV) (h : AH) : R :=
qq .eql a1 (iI 0) fun v0 =>
qz v0 (
qF a0 fun v1 =>
qJ v1 0 fun v2 =>
qX h v2 fun v3 =>
qG c (.fn 226 [] []) [v3, (iI 2)] h fun _ h5 =>
some ((.tup []), h5)) (
qF a0 fun v6 =>
qJ v6 0 fun v7 =>
qX h v7 fun v8 =>
qq .add a1 (iI 2) fun v9 =>
qG c (.fn 170 [] []) [v8, v9] h fun v10 h11 =>
qq .and v10 (uU 1) fun v12 =>
qq .eql v12 (uU 1) fun v13 =>
pEq .bool true v13 a2 fun v14 =>
qz v14 (
qF a0 fun v15 =>
qJ v15 0 fun v16 =>
qX h11 v16 fun v17 =>
qq .add a1 (iI 2) fun v18 =>
qq .xor v10 (uU 1) fun v19 =>
qG c (.fn 167 [] []) [v17, v18, v19] h11 fun _ h21 =>
some ((.tup []), h21)) (
some ((.tup []), h11)))
def W236 : WF := w_3 S236
theorem W236_ok : WOk Tryz.prog 236 W236 := zZ (pl := P236) fun _ _ _ _ _ => by kernel_rfl
def P237 : Pl := (.n none .z (.n none .z (.n none .z (.n none (.n (some [1]) (.n (some [1, 0]) .z .z) .z) .z))))
def S237 (c : CV) (a0 a1 : AV) (h : AH) : R :=
qF a0 fun v0 =>
qJ v0 2 fun v1 =>
qX h v1 fun v2 =>
qm [(iI 0), (iI 0)] [(0, 1, a1), (1, 1, (iI 1))] fun v3 =>
qp h 265 [(iI 0), (iI 0)] 1 [(0, 2, v3)] fun v4 h5 =>
q8 h5 265 2 v2 v4 fun v6 h7 =>
qF a0 fun v8 =>
qJ v8 2 fun v9 =>
qy h7 v9 v6 1 fun h10 =>
qG c (.fn 232 [] []) [a0, a1, (iI 1)] h10 fun v11 h12 =>
qE (α := AV × Unit → AH → List Nat → R) (fun s13 h14 d15 =>
qT d15 h14 fun h17 =>
some (s13.1, h17)) fun j16 =>
zJ (σ := u2_1) NN (fun i21 s18 h19 d20 =>
qF s18.2.1 fun v22 =>
qJ v22 0 fun v23 =>
qX h19 v23 fun v24 =>
qG c (.fn 224 [] []) [v24] h19 fun v25 h26 =>
qz v25 (
qG c (.fn 232 [] []) [s18.2.1, s18.1, (iI 0)] h26 fun v27 h28 =>
qq .eql v27 (iI 0) fun v29 =>
qz v29 (
j16 (s18.1, ()) h28 d20) (
qF s18.2.1 fun v30 =>
qJ v30 2 fun v31 =>
qX h28 v31 fun v32 =>
qm [(iI 0), (iI 0)] [(0, 1, s18.1), (1, 1, (iI 0))] fun v33 =>
qp h28 265 [(iI 0), (iI 0)] 1 [(0, 2, v33)] fun v34 h35 =>
q8 h35 265 2 v32 v34 fun v36 h37 =>
qF s18.2.1 fun v38 =>
qJ v38 2 fun v39 =>
qy h37 v39 v36 1 fun h40 =>
i21 (v27, s18.2.1, ()) h40 d20)) (
j16 (s18.1, ()) h26 d20)) (v11, a0, ()) h12 []
def W237 : WF := w_2 S237
theorem W237_ok : WOk Tryz.prog 237 W237 := jC (pl := P237) fun _ _ _ _ => by kernel_rfl
def P238 : Pl := (.n none (.n (some [0]) (.n none (.n none (.r [[16, 11, 0]]) .z) (.n (some [0]) (.n none .z (.n none .z (.n none .z (.n none .z (.n none (.n none (.r [[90, 85, 4, 3, 2, 0]]) .z) .z))))) .z)) .z) .z)
def S238 (c : CV) (a0 : AV) (h : AH) : R :=
zJ (σ := AV × Unit) NN (fun i3 s0 h1 d2 =>
qF s0.1 fun v4 =>
qJ v4 2 fun v5 =>
qX h1 v5 fun v6 =>
q9 v6 fun v7 =>
qq .gtr v7 (iI 0) fun v8 =>
qE (α := u3_1 → AH → R) (fun s9 h10 =>
qn s9.2.1 s9.1 (.bool false) fun v12 =>
qz v12 (
qE (α := AV × Unit → AH → List Nat → R) (fun s13 h14 d15 =>
i3 (s13.1, ()) h14 d15) fun j16 =>
qF s9.2.2.1 fun v17 =>
qJ v17 2 fun v18 =>
qX h10 v18 fun v19 =>
q9 v19 fun v20 =>
qF s9.2.2.1 fun v21 =>
qJ v21 2 fun v22 =>
qX h10 v22 fun v23 =>
qq .sub v20 (iI 1) fun v24 =>
jz v23 v24 2 fun v25 =>
qR h10 v25 2 fun v26 =>
jX h10 265 (.agg [(iI 0), (iI 0)]) fun v27 h28 =>
qy h28 v27 v26 2 fun h29 =>
qJ v27 0 fun v30 =>
qX h29 v30 fun v31 =>
qJ v27 1 fun v32 =>
qX h29 v32 fun v33 =>
qq .sub (iI 1) v33 fun v34 =>
qG c (.fn 232 [] []) [s9.2.2.1, v31, v34] h29 fun v35 h36 =>
qG c (.fn 234 [] []) [s9.2.2.1, v35] h36 fun v37 h38 =>
qz v37 (
qJ v27 0 fun v39 =>
qX h38 v39 fun v40 =>
qJ v27 1 fun v41 =>
qX h38 v41 fun v42 =>
qG c (.fn 253 [] []) [s9.2.2.1, v40, v42] h38 fun _ h44 =>
qG c (.fn 236 [] []) [s9.2.2.1, v35, (.bool false)] h44 fun _ h46 =>
qJ v27 0 fun v47 =>
qX h46 v47 fun v48 =>
qG c (.fn 236 [] []) [s9.2.2.1, v48, (.bool true)] h46 fun _ h50 =>
qq .sub v20 (iI 1) fun v51 =>
qG c (.fn 186 [] []) [s9.2.2.1, v51, v35] h50 fun _ h53 =>
qF s9.2.2.1 fun v54 =>
qJ v54 2 fun v55 =>
qX h53 v55 fun v56 =>
qq .sub v20 (iI 1) fun v57 =>
qJ v27 1 fun v58 =>
qX h53 v58 fun v59 =>
qm [(iI 0), (iI 0)] [(0, 1, v35), (1, 1, v59)] fun v60 =>
jz v56 v57 2 fun v61 =>
qy h53 v61 v60 2 fun h62 =>
qF s9.2.2.1 fun v63 =>
qJ v63 2 fun v64 =>
qX h62 v64 fun v65 =>
qR h62 v27 2 fun v66 =>
qp h62 265 [(iI 0), (iI 0)] 1 [(0, 2, v66)] fun v67 h68 =>
q8 h68 265 2 v65 v67 fun v69 h70 =>
qF s9.2.2.1 fun v71 =>
qJ v71 2 fun v72 =>
qy h70 v72 v69 1 fun h73 =>
j16 (s9.2.2.1, ()) h73 d2) (
qG c (.fn 232 [] []) [s9.2.2.1, v35, (iI 0)] h38 fun v74 h75 =>
qG c (.fn 234 [] []) [s9.2.2.1, v74] h75 fun v76 h77 =>
qE (α := AV × AV × AV × AV × AV × AV × Unit → AH → R) (fun s78 h79 =>
qn s78.2.1 (.bool true) s78.1 fun v81 =>
qz v81 (
qR h79 s78.2.2.2.1 2 fun v82 =>
qG c (.fn 254 [] []) [s78.2.2.2.2.2.1, v82, s78.2.2.1] h79 fun _ h84 =>
qT d2 h84 fun h85 =>
some ((.tup []), h85)) (
qG c (.fn 236 [] []) [s78.2.2.2.2.2.1, s78.2.2.1, (.bool true)] h79 fun _ h87 =>
qJ s78.2.2.2.1 0 fun v88 =>
qX h87 v88 fun v89 =>
qG c (.fn 234 [] []) [s78.2.2.2.2.2.1, v89] h87 fun v90 h91 =>
qz v90 (
qJ s78.2.2.2.1 0 fun v92 =>
qX h91 v92 fun v93 =>
qG c (.fn 236 [] []) [s78.2.2.2.2.2.1, v93, (.bool false)] h91 fun _ h95 =>
qT d2 h95 fun h96 =>
some ((.tup []), h96)) (
qF s78.2.2.2.2.2.1 fun v97 =>
qJ v97 2 fun v98 =>
qX h91 v98 fun v99 =>
qq .sub s78.2.2.2.2.1 (iI 1) fun v100 =>
zi h91 265 2 v99 none (some v100) fun v101 =>
qF s78.2.2.2.2.2.1 fun v102 =>
qJ v102 2 fun v103 =>
qy h91 v103 v101 1 fun h104 =>
j16 (s78.2.2.2.2.2.1, ()) h104 d2))) fun j80 =>
qi v76 false (
qG c (.fn 232 [] []) [s9.2.2.1, v35, (iI 1)] h77 fun v105 h106 =>
qG c (.fn 234 [] []) [s9.2.2.1, v105] h106 fun v107 h108 =>
j80 (v107, v76, v35, v27, v20, s9.2.2.1, ()) h108) (
j80 (.undef, v76, v35, v27, v20, s9.2.2.1, ()) h77))) (
qT d2 h10 fun h109 =>
some ((.tup []), h109))) fun j11 =>
qi v8 true (
qF s0.1 fun v110 =>
qJ v110 0 fun v111 =>
qX h1 v111 fun v112 =>
qG c (.fn 224 [] []) [v112] h1 fun v113 h114 =>
j11 (v113, v8, s0.1, ()) h114) (
j11 (.undef, v8, s0.1, ()) h1)) (a0, ()) h []
def W238 : WF := w_1 S238
theorem W238_ok : WOk Tryz.prog 238 W238 := jk (pl := P238) fun _ _ _ => by kernel_rfl
def P239 : Pl := (.n none .z (.n none .z (.n none (.n none .z (.n none (.n (some [15, 14, 13, 3]) .z .z) .z)) .z)))
def S239 (c : CV) (a0 : AV) (h : AH) : R :=
qF a0 fun v0 =>
qJ v0 0 fun v1 =>
qX h v1 fun v2 =>
qF a0 fun v3 =>
qJ v3 1 fun v4 =>
qX h v4 fun v5 =>
q9 v5 fun v6 =>
zJ (σ := u4_1) NN (fun i10 s7 h8 d9 =>
qq .lss s7.1 s7.2.1 fun v11 =>
qz v11 (
jz s7.2.2.1 s7.1 1 fun v12 =>
qX h8 v12 fun v13 =>
qF v13 fun v14 =>
qJ v14 0 fun v15 =>
qX h8 v15 fun v16 =>
qG c (.fn 255 [] []) [v16] h8 fun v17 h18 =>
qq .sub s7.2.2.2.1 v17 fun v19 =>
qq .add s7.1 (iI 1) fun v20 =>
i10 (v20, s7.2.1, s7.2.2.1, v19, ()) h18 d9) (
qT d9 h8 fun h21 =>
some (s7.2.2.2.1, h21))) ((iI 0), v6, v5, v2, ()) h []
def W239 : WF := w_1 S239
theorem W239_ok : WOk Tryz.prog 239 W239 := jk (pl := P239) fun _ _ _ => by kernel_rfl
def P240 : Pl := (.n none .z (.n none (.n none (.r [[7, 5, 0]]) .z) .z))
def S240 (_ : CV) (a0 : AV) (h : AH) : R :=
qq .lss a0 (iI 1) fun v0 =>
qE (α := u3_1 → AH → R) (fun s1 h2 =>
qn s1.2.1 (.bool true) s1.1 fun v4 =>
qz v4 (
some ((iI 0), h2)) (
xd .shl (iI 1) s1.2.2.1 fun v5 =>
some (v5, h2))) fun j3 =>
qi v0 false (
qq .gtr a0 (iI 4) fun v6 =>
j3 (v6, v0, a0, ()) h) (
j3 (.undef, v0, a0, ()) h)
def W240 : WF := w_1 S240
theorem W240_ok : WOk Tryz.prog 240 W240 := jk (pl := P240) fun _ _ _ => by kernel_rfl
def P241 : Pl := .z
def S241 (c : CV) (a0 a1 : AV) (h : AH) : R :=
qG c (.fn 222 [] []) [a0] h fun v0 h1 =>
qF v0 fun v2 =>
qJ v2 1 fun v3 =>
qX h1 v3 fun v4 =>
qp h1 3 [(iI 0)] 1 [(0, 1, a1)] fun v5 h6 =>
q8 h6 3 1 v4 v5 fun v7 h8 =>
qF v0 fun v9 =>
qJ v9 1 fun v10 =>
qy h8 v10 v7 1 fun h11 =>
some ((.tup []), h11)
def W241 : WF := w_2 S241
theorem W241_ok : WOk Tryz.prog 241 W241 := jC (pl := P241) fun _ _ _ _ => by kernel_rfl
def P242 : Pl := (.n none .z (.n none .z (.n none (.r [[]]) .z)))
def S242 (c : CV) (a0 : AV) (h : AH) : R :=
qF a0 fun v0 =>
qJ v0 1 fun v1 =>
qX h v1 fun v2 =>
q9 v2 fun v3 =>
qq .geq v3 (iI 6) fun v4 =>
qz v4 (
some ((iI 9), h)) (
qE (α := Unit → AH → R) (fun _ h6 =>
some ((iI 0), h6)) fun j7 =>
qF a0 fun v8 =>
qJ v8 1 fun v9 =>
qX h v9 fun v10 =>
qG c (.fn 81 [] []) [] h fun v11 h12 =>
qp h12 136 [.nilp] 1 [(0, 1, v11)] fun v13 h14 =>
q8 h14 136 1 v10 v13 fun v15 h16 =>
qF a0 fun v17 =>
qJ v17 1 fun v18 =>
qy h16 v18 v15 1 fun h19 =>
zx v9 none v10 h h12 h.nx <|
j7 (()) h19)
def W242 : WF := w_1 S242
theorem W242_ok : WOk Tryz.prog 242 W242 := jk (pl := P242) fun _ _ _ => by kernel_rfl
def P246 : Pl := .z
def S246 (_ : CV) (a0 : AV) (h : AH) : R :=
qq .sub a0 (iI 1) fun v0 =>
qq .and a0 v0 fun v1 =>
qq .eql v1 (iI 0) fun v2 =>
some (v2, h)
def W246 : WF := w_1 S246
theorem W246_ok : WOk Tryz.prog 246 W246 := jk (pl := P246) fun _ _ _ => by kernel_rfl
def P247 : Pl := .z
def S247 (c : CV) (a0 : AV) (h : AH) : R :=
qz (.bool false) (
jR .u32 a0 fun v0 =>
qG c (.fn 256 [] []) [v0] h fun v1 h2 =>
some (v1, h2)) (
qG c (.fn 257 [] []) [a0] h fun v3 h4 =>
some (v3, h4))
def W247 : WF := w_1 S247
theorem W247_ok : WOk Tryz.prog 247 W247 := jk (pl := P247) fun _ _ _ => by kernel_rfl
def P249 : Pl := (.n none .z (.n none (.n none .z (.n none (.n (some [8, 7, 1, 0]) .z .z) .z)) .z))
def S249 (c : CV) (a0 a1 : AV) (h : AH) : R :=
q9 a0 fun v0 =>
zJ (σ := u4_1) NN (fun i4 s1 h2 d3 =>
qq .lss s1.1 s1.2.1 fun v5 =>
qz v5 (
jz s1.2.2.2.1 s1.1 2 fun v6 =>
qR h2 v6 2 fun v7 =>
qG c s1.2.2.1 [v7] h2 fun v8 h9 =>
qz v8 (
qT d3 h9 fun h10 =>
some (s1.1, h10)) (
qq .add s1.1 (iI 1) fun v11 =>
i4 (v11, s1.2.1, s1.2.2.1, s1.2.2.2.1, ()) h9 d3)) (
qT d3 h2 fun h12 =>
some ((.int .i64 (.negSucc 0)), h12))) ((iI 0), v0, a1, a0, ()) h []
def W249 : WF := w_2 S249
theorem W249_ok : WOk Tryz.prog 249 W249 := jC (pl := P249) fun _ _ _ _ => by kernel_rfl
def P250 : Pl := .z
def S250 (_ : CV) (a0 a1 : AV) (h : AH) : R :=
jX h 67 a0 fun v0 h1 =>
qJ v0 0 fun v2 =>
qX h1 v2 fun v3 =>
qX h1 a1 fun v4 =>
qq .eql v3 v4 fun v5 =>
some (v5, h1)
def W250 : WF := w_2 S250
theorem W250_ok : WOk Tryz.prog 250 W250 := jC (pl := P250) fun _ _ _ _ => by kernel_rfl
def P251 : Pl := (.n none .z (.n none .z (.n none (.n none .z (.n none (.n (some [17, 16, 15, 3, 0]) .z .z) .z)) .z)))
def S251 (_ : CV) (a0 : AV) (h : AH) : R :=
qF a0 fun v0 =>
qJ v0 1 fun v1 =>
qX h v1 fun v2 =>
q9 v2 fun v3 =>
y8 h 67 [(iI 0), (uU 0)] (iI 0) v3 fun v4 h5 =>
qF a0 fun v6 =>
qJ v6 1 fun v7 =>
qX h5 v7 fun v8 =>
q9 v8 fun v9 =>
zJ (σ := u5_1) NN (fun i13 s10 h11 d12 =>
qq .lss s10.1 s10.2.1 fun v14 =>
qz v14 (
jz s10.2.2.1 s10.1 1 fun v15 =>
qX h11 v15 fun v16 =>
qF s10.2.2.2.2.1 fun v17 =>
qJ v17 0 fun v18 =>
qX h11 v18 fun v19 =>
jz v19 v16 2 fun v20 =>
qJ v20 0 fun v21 =>
qX h11 v21 fun v22 =>
qm [(iI 0), (uU 0)] [(0, 1, v16), (1, 1, v22)] fun v23 =>
qp h11 67 [(iI 0), (uU 0)] 1 [(0, 2, v23)] fun v24 h25 =>
q8 h25 67 2 s10.2.2.2.1 v24 fun v26 h27 =>
qq .add s10.1 (iI 1) fun v28 =>
i13 (v28, s10.2.1, s10.2.2.1, v26, s10.2.2.2.2.1, ()) h27 d12) (
qT d12 h11 fun h29 =>
some (s10.2.2.2.1, h29))) ((iI 0), v9, v8, v4, a0, ()) h5 []
def W251 : WF := w_1 S251
theorem W251_ok : WOk Tryz.prog 251 W251 := jk (pl := P251) fun _ _ _ => by kernel_rfl
def P252 : Pl := .z
def S252 (c : CV) (a0 a1 : AV) (h : AH) : R :=
qq .geq a1 (uU 2147483648) fun v0 =>
qz v0 (
qG c (.fn 226 [] []) [a0, (iI 2)] h fun _ h2 =>
some ((iI 0), h2)) (
jR .i64 a1 fun v3 =>
some (v3, h))
def W252 : WF := w_2 S252
theorem W252_ok : WOk Tryz.prog 252 W252 := jC (pl := P252) fun _ _ _ _ => by kernel_rfl
def P253 : Pl := .z
def S253 (c : CV) (a0 a1 a2 : AV) (h : AH) : R :=
qq .sub (iI 1) a2 fun v0 =>
qG c (.fn 232 [] []) [a0, a1, v0] h fun v1 h2 =>
qq .sub (iI 1) a2 fun v3 =>
qG c (.fn 232 [] []) [a0, v1, a2] h2 fun v4 h5 =>
qG c (.fn 233 [] []) [a0, a1, v3, v4] h5 fun _ h7 =>
qG c (.fn 233 [] []) [a0, v1, a2, a1] h7 fun _ h9 =>
some (v1, h9)
def W253 : WF := w_3 S253
theorem W253_ok : WOk Tryz.prog 253 W253 := zZ (pl := P253) fun _ _ _ _ _ => by kernel_rfl
def P254 : Pl := (.n none .z (.n (some [4, 2, 0]) .z .z))
def S254 (c : CV) (a0 a1 a2 : AV) (h : AH) : R :=
jX h 265 a1 fun v0 h1 =>
qE (α := u3_1 → AH → List Nat → R) (fun s2 h3 d4 =>
qJ s2.1 0 fun v6 =>
qX h3 v6 fun v7 =>
qJ s2.1 1 fun v8 =>
qX h3 v8 fun v9 =>
qG c (.fn 253 [] []) [s2.2.2.1, v7, v9] h3 fun _ h11 =>
qJ s2.1 0 fun v12 =>
qX h11 v12 fun v13 =>
qG c (.fn 234 [] []) [s2.2.2.1, v13] h11 fun v14 h15 =>
qG c (.fn 236 [] []) [s2.2.2.1, s2.2.1, v14] h15 fun _ h17 =>
qJ s2.1 0 fun v18 =>
qX h17 v18 fun v19 =>
qG c (.fn 236 [] []) [s2.2.2.1, v19, (.bool false)] h17 fun _ h21 =>
qJ s2.1 1 fun v22 =>
qX h21 v22 fun v23 =>
qq .sub (iI 1) v23 fun v24 =>
qG c (.fn 232 [] []) [s2.2.2.1, s2.2.1, v24] h21 fun v25 h26 =>
qG c (.fn 236 [] []) [s2.2.2.1, v25, (.bool false)] h26 fun _ h28 =>
qF s2.2.2.1 fun v29 =>
qJ v29 2 fun v30 =>
qX h28 v30 fun v31 =>
q9 v31 fun v32 =>
qq .sub v32 (iI 1) fun v33 =>
qG c (.fn 186 [] []) [s2.2.2.1, v33, s2.2.1] h28 fun _ h35 =>
qT d4 h35 fun h36 =>
some ((.tup []), h36)) fun j5 =>
qJ v0 1 fun v37 =>
qX h1 v37 fun v38 =>
qq .sub (iI 1) v38 fun v39 =>
qG c (.fn 232 [] []) [a0, a2, v39] h1 fun v40 h41 =>
qG c (.fn 234 [] []) [a0, v40] h41 fun v42 h43 =>
pUn .not v42 fun v44 =>
qz v44 (
qJ v0 1 fun v45 =>
qX h43 v45 fun v46 =>
qq .sub (iI 1) v46 fun v47 =>
qG c (.fn 253 [] []) [a0, a2, v47] h43 fun v48 h49 =>
qJ v0 0 fun v50 =>
qX h49 v50 fun v51 =>
qJ v0 1 fun v52 =>
qX h49 v52 fun v53 =>
qq .sub (iI 1) v53 fun v54 =>
qG c (.fn 233 [] []) [a0, v51, v54, v48] h49 fun _ h56 =>
qG c (.fn 236 [] []) [a0, v48, (.bool false)] h56 fun _ h58 =>
qG c (.fn 236 [] []) [a0, a2, (.bool true)] h58 fun _ h60 =>
j5 (v0, v48, a0, ()) h60 []) (
j5 (v0, a2, a0, ()) h43 [])
def W254 : WF := w_3 S254
theorem W254_ok : WOk Tryz.prog 254 W254 := zZ (pl := P254) fun _ _ _ _ _ => by kernel_rfl
def P255 : Pl := .z
def S255 (_ : CV) (a0 : AV) (h : AH) : R :=
qF a0 fun v0 =>
qJ v0 1 fun v1 =>
qX h v1 fun v2 =>
q9 v2 fun v3 =>
some (v3, h)
def W255 : WF := w_1 S255
theorem W255_ok : WOk Tryz.prog 255 W255 := jk (pl := P255) fun _ _ _ => by kernel_rfl
def P256 : Pl := .z
def S256 (_ : CV) (a0 : AV) (h : AH) : R :=
qq .eql a0 (.int .u32 (.ofNat 0)) fun v0 =>
qz v0 (
some ((iI 32), h)) (
pUn .neg a0 fun v1 =>
qq .and a0 v1 fun v2 =>
qq .mul v2 (.int .u32 (.ofNat 125613361)) fun v3 =>
xd .shr v3 (uU 27) fun _ =>
none /- op -/)
def W256 : WF := w_1 S256
theorem W256_ok : WOk Tryz.prog 256 W256 := jk (pl := P256) fun _ _ _ => by kernel_rfl
def P257 : Pl := .z
def S257 (_ : CV) (a0 : AV) (h : AH) : R :=
qq .eql a0 (uU 0) fun v0 =>
qz v0 (
some ((iI 64), h)) (
pUn .neg a0 fun v1 =>
qq .and a0 v1 fun v2 =>
qq .mul v2 (uU 285870213051353865) fun v3 =>
xd .shr v3 (uU 58) fun _ =>
none /- op -/)
def W257 : WF := w_1 S257
theorem W257_ok : WOk Tryz.prog 257 W257 := jk (pl := P257) fun _ _ _ => by kernel_rfl
def Q0 : Pl := (.n none .z .z)
def B0 (c : CV) (l : Nat) (v0 _ a1 : AV) (h : AH) : R :=
JT h l fun h100 =>
qG c (.fn 100 [] []) [(iI 96)] h100 fun v101 h102 =>
qF a1 fun v103 =>
qJ v103 0 fun v104 =>
qX h102 v104 fun v105 =>
qG c (.fn 102 [] []) [v105] h102 fun v106 h107 =>
qG c (.fn 101 [] []) [v101, v106] h107 fun _ h109 =>
qX h109 v0 fun v110 =>
qG c (.fn 101 [] []) [v101, v110] h109 fun _ h112 =>
qG c (.fn 102 [] []) [v101] h112 fun v113 h114 =>
qy h114 v0 v113 1 fun h115 =>
xv h115 l none
theorem B0_eq (c : CV) (l : Nat) (v0 a0 a1 : AV) (h : AH) : Xh Tryz.prog NN Q0 c 69 [1, 1, 0, 1, 0] [3] l [v0] [a0, a1] h = B0 c l v0 a0 a1 h := by kernel_rfl
def V0 (c : CV) (l : Nat) (x y : List AV) (h : AH) : R := match x, y with | [v0], [a0, a1] => B0 c l v0 a0 a1 h | _, _ => none
theorem V0_ok : VOk Tryz.prog 69 [1, 1, 0, 1, 0] [3] V0 := by
 intro c l x y h r e
 unfold V0 at e
 split at e
 ·exact ⟨Q0, by rw [B0_eq]; exact e⟩
 ·cases e
def Q1 : Pl := (.n none .z .z)
def B1 (c : CV) (l : Nat) (v0 v1 v2 _ a1 : AV) (h : AH) : R :=
JT h l fun h100 =>
qF a1 fun v101 =>
qJ v101 0 fun v102 =>
qX h100 v102 fun v103 =>
qX h100 v2 fun v104 =>
qG c (.fn 221 [] []) [v103, v104] h100 fun v105 h106 =>
qD v105 0 fun v107 =>
qD v105 1 fun v108 =>
qz v108 (
qy h106 v1 v107 1 fun h109 =>
qy h109 v0 (.bool true) 1 fun h110 =>
xv h110 l (some .ret)) (
xv h106 l none)
theorem B1_eq (c : CV) (l : Nat) (v0 v1 v2 a0 a1 : AV) (h : AH) : Xh Tryz.prog NN Q1 c 157 [1, 0, 1, 0] [5, 4, 3] l [v0, v1, v2] [a0, a1] h = B1 c l v0 v1 v2 a0 a1 h := by kernel_rfl
def V1 (c : CV) (l : Nat) (x y : List AV) (h : AH) : R := match x, y with | [v0, v1, v2], [a0, a1] => B1 c l v0 v1 v2 a0 a1 h | _, _ => none
theorem V1_ok : VOk Tryz.prog 157 [1, 0, 1, 0] [5, 4, 3] V1 := by
 intro c l x y h r e
 unfold V1 at e
 split at e
 ·exact ⟨Q1, by rw [B1_eq]; exact e⟩
 ·cases e
end
end Go.Proofs.YtdlfmpmpmkffjaaGreatDoor
