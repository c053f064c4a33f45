/- Printed by a program of mine: the bodies of the program's functions aa terms of the primitives of the abstract executor, each shown equal by the kernel. -/
import Derived.Test.YtlmfnmppcdijfaaProg
import Derived.Test.YtlmfnmppcdijfaaAe1
import Derived.KernelRfl
namespace Go.Proofs.Ytlmfnmppcdijfaa
open Go Go.Ae
set_option maxRecDepth 100000
/- quietus/quietuslaw29.HistoryRuns -/
def P3 : Pl := (.n none .z (.n none .z (.n none .z (.n none .z (.n none (.r [[29, 22, 3, 2, 1, 0], [33, 31, 3, 2, 1, 0], [38, 35, 3, 2, 1, 0], [44, 40, 3, 2, 1, 0], [49, 46, 3, 1, 0], [55, 51, 0]]) .z)))))
def S3 (c : CV) (h : AH) : R :=
pBuild [(.int .i64 (.ofNat 0)), (.int .u64 (.ofNat 0))] [(0, 1, (.int .i64 (.ofNat 7))), (1, 1, (.int .u64 (.ofNat 9)))] fun v0 =>
pBuildS h 24 [(.int .i64 (.ofNat 0)), (.int .u64 (.ofNat 0))] 1 [(0, 2, v0)] fun v1 h2 =>
pBuild [(.int .i64 (.ofNat 0)), (.int .i64 (.ofNat 0)), (.int .i64 (.ofNat 0)), (.bool false), (.int .i64 (.ofNat 0)), (.int .i64 (.ofNat 0)), (.int .u64 (.ofNat 0)), (.int .u64 (.ofNat 0)), (.int .i64 (.ofNat 0)), (.int .i64 (.ofNat 0)), .nils, .nils, .nils, (.str [])] [(4, 1, (.int .i64 (.ofNat 2))), (7, 1, (.int .u64 (.ofNat 5))), (8, 1, (.int .i64 (.ofNat 2))), (11, 1, v1)] fun v3 =>
pBuild [(.int .i64 (.ofNat 0)), (.int .u64 (.ofNat 0))] [(0, 1, (.int .i64 (.ofNat 7))), (1, 1, (.int .u64 (.ofNat 9)))] fun v4 =>
pBuildS h2 24 [(.int .i64 (.ofNat 0)), (.int .u64 (.ofNat 0))] 1 [(0, 2, v4)] fun v5 h6 =>
pBuild [(.int .i64 (.ofNat 0)), (.int .i64 (.ofNat 0)), (.int .i64 (.ofNat 0)), (.bool false), (.int .i64 (.ofNat 0)), (.int .i64 (.ofNat 0)), (.int .u64 (.ofNat 0)), (.int .u64 (.ofNat 0)), (.int .i64 (.ofNat 0)), (.int .i64 (.ofNat 0)), .nils, .nils, .nils, (.str [])] [(4, 1, (.int .i64 (.ofNat 2))), (7, 1, (.int .u64 (.ofNat 5))), (8, 1, (.int .i64 (.ofNat 1))), (10, 1, v5)] fun v7 =>
pBuild [(.int .i64 (.ofNat 0)), (.int .u64 (.ofNat 0))] [(0, 1, (.int .i64 (.ofNat 7)))] fun v8 =>
pBuildS h6 24 [(.int .i64 (.ofNat 0)), (.int .u64 (.ofNat 0))] 1 [(0, 2, v8)] fun v9 h10 =>
pBuild [(.int .i64 (.ofNat 0)), (.int .i64 (.ofNat 0)), (.int .i64 (.ofNat 0)), (.bool false), (.int .i64 (.ofNat 0)), (.int .i64 (.ofNat 0)), (.int .u64 (.ofNat 0)), (.int .u64 (.ofNat 0)), (.int .i64 (.ofNat 0)), (.int .i64 (.ofNat 0)), .nils, .nils, .nils, (.str [])] [(4, 1, (.int .i64 (.ofNat 5))), (7, 1, (.int .u64 (.ofNat 3))), (8, 1, (.int .i64 (.ofNat 3))), (10, 1, v9)] fun v11 =>
pBuildS h10 29 [(.int .i64 (.ofNat 0)), (.int .i64 (.ofNat 0)), (.int .i64 (.ofNat 0)), (.bool false), (.int .i64 (.ofNat 0)), (.int .i64 (.ofNat 0)), (.int .u64 (.ofNat 0)), (.int .u64 (.ofNat 0)), (.int .i64 (.ofNat 0)), (.int .i64 (.ofNat 0)), .nils, .nils, .nils, (.str [])] 3 [(0, 14, v3), (14, 14, v7), (28, 14, v11)] fun v12 h13 =>
pMake h13 22 [(.int .u64 (.ofNat 0))] (.int .i64 (.ofNat 40)) (.int .i64 (.ofNat 40)) fun v14 h15 =>
pCall c (.fn 6 [] []) [v14, v12, (.int .i64 (.ofNat 2))] h15 fun v16 h17 =>
pCall c (.fn 8 [] []) [v12] h17 fun v18 h19 =>
pBuildS h19 3 [(.int .i64 (.ofNat 0))] 3 [(0, 1, (.int .i64 (.ofNat 2))), (1, 1, (.int .i64 (.ofNat 0))), (2, 1, (.int .i64 (.ofNat 1)))] fun v20 h21 =>
pCall c (.fn 7 [] []) [v18, v20] h21 fun v22 h23 =>
joinC (α := AV × AV × AV × AV × AV × AV × Unit → AH → R) (fun s24 h25 =>
pPick s24.2.1 s24.1 (.bool false) fun v27 =>
joinC (α := AV × AV × AV × AV × AV × AV × Unit → AH → R) (fun s28 h29 =>
pPick s28.2.1 s28.1 (.bool false) fun v31 =>
joinC (α := AV × AV × AV × AV × AV × AV × Unit → AH → R) (fun s32 h33 =>
pPick s32.2.1 s32.1 (.bool false) fun v35 =>
joinC (α := AV × AV × AV × AV × AV × AV × Unit → AH → R) (fun s36 h37 =>
pPick s36.2.1 s36.1 (.bool false) fun v39 =>
joinC (α := AV × AV × AV × AV × AV × Unit → AH → R) (fun s40 h41 =>
pPick s40.2.1 s40.1 (.bool false) fun v43 =>
joinC (α := AV × AV × AV × Unit → AH → R) (fun s44 h45 =>
pPick s44.2.1 s44.1 (.bool false) fun v47 =>
some (v47, h45)) fun j46 =>
pWant v43 true (
pCall c (.fn 11 [] []) [s40.2.2.1, s40.2.2.2.1] h41 fun v48 h49 =>
pUn .not v48 fun v50 =>
j46 (v50, v43, s40.2.2.2.2.1, ()) h49) (
j46 (.undef, v43, s40.2.2.2.2.1, ()) h41)) fun j42 =>
pWant v39 true (
pCall c (.fn 11 [] []) [s36.2.2.2.1, s36.2.2.2.2.1] h37 fun v51 h52 =>
j42 (v51, v39, s36.2.2.1, s36.2.2.2.2.1, s36.2.2.2.2.2.1, ()) h52) (
j42 (.undef, v39, s36.2.2.1, s36.2.2.2.2.1, s36.2.2.2.2.2.1, ()) h37)) fun j38 =>
pWant v35 true (
pIdxS s32.2.2.1 (.int .i64 (.ofNat 7)) 1 fun v53 =>
pLoad1 h33 v53 fun v54 =>
pInt .eql v54 (.int .u64 (.ofNat 9)) fun v55 =>
j38 (v55, v35, s32.2.2.1, s32.2.2.2.1, s32.2.2.2.2.1, s32.2.2.2.2.2.1, ()) h33) (
j38 (.undef, v35, s32.2.2.1, s32.2.2.2.1, s32.2.2.2.2.1, s32.2.2.2.2.2.1, ()) h33)) fun j34 =>
pWant v31 true (
pLenS s28.2.2.1 fun v56 =>
pInt .eql v56 (.int .i64 (.ofNat 40)) fun v57 =>
j34 (v57, v31, s28.2.2.1, s28.2.2.2.1, s28.2.2.2.2.1, s28.2.2.2.2.2.1, ()) h29) (
j34 (.undef, v31, s28.2.2.1, s28.2.2.2.1, s28.2.2.2.2.1, s28.2.2.2.2.2.1, ()) h29)) fun j30 =>
pWant v27 true (
pCall c (.fn 10 [] []) [s24.2.2.2.2.1] h25 fun v58 h59 =>
j30 (v58, v27, s24.2.2.1, s24.2.2.2.1, s24.2.2.2.2.1, s24.2.2.2.2.2.1, ()) h59) (
j30 (.undef, v27, s24.2.2.1, s24.2.2.2.1, s24.2.2.2.2.1, s24.2.2.2.2.2.1, ()) h25)) fun j26 =>
pWant v22 true (
pIdxS v12 (.int .i64 (.ofNat 0)) 14 fun v60 =>
pLoadN h23 v60 14 fun v61 =>
pIdxS v12 (.int .i64 (.ofNat 1)) 14 fun v62 =>
pLoadN h23 v62 14 fun v63 =>
pCall c (.fn 9 [] []) [v61, v63] h23 fun v64 h65 =>
j26 (v64, v22, v16, v14, v12, (.bool false), ()) h65) (
j26 (.undef, v22, v16, v14, v12, (.bool false), ()) h23)
theorem S3_eq (c : CV) (h : AH) : enterK Try.prog NN P3 c 3 [] h = S3 c h := by kernel_rfl
def W3 (c : CV) (l : List AV) (h : AH) : R := match l with | [] => S3 c h | _ => none
theorem W3_ok : WOk Try.prog 3 W3 := by
  intro c l h r e
  unfold W3 at e
  split at e
  · exact ⟨P3, by rw [S3_eq]; exact e⟩
  · cases e
/- quietus/history.Heap -/
def P6 : Pl := (.n none .z (.n none .z (.n none (.n none .z (.n none (.n (some [21, 20, 19, 7, 6, 1]) (.n none .z (.n none .z (.n none (.n (some [30, 29, 28, 27, 26, 25, 24, 23, 22, 21, 20, 19, 9, 7, 6, 1]) .z .z) .z))) .z) .z)) .z)))
def S6 (c : CV) (a0 a1 a2 : AV) (h : AH) : R :=
pCall c (.fn 14 [] []) [a0, .nils] h fun v0 h1 =>
pCall c (.fn 8 [] []) [a1] h1 fun v2 h3 =>
pLenS a1 fun v4 =>
pMM false [a2, v4] fun v5 =>
pMM true [(.int .i64 (.ofNat 0)), v5] fun v6 =>
pSlice h3 3 1 v2 none (some v6) fun v7 =>
pLenS v7 fun v8 =>
loopC (σ := AV × AV × AV × AV × AV × AV × Unit) NN (fun i12 s9 h10 d11 =>
pInt .lss s9.1 s9.2.1 fun v13 =>
pCond v13 (
joinC (α := AV × AV × AV × AV × AV × AV × AV × AV × AV × AV × AV × AV × AV × AV × AV × AV × Unit → AH → List Nat → R) (fun s14 h15 d16 =>
pInt .add s14.2.2.2.2.2.2.2.2.2.1 (.int .i64 (.ofNat 1)) fun v18 =>
i12 (v18, s14.2.2.2.2.2.2.2.2.2.2.1, s14.2.2.2.2.2.2.2.2.2.2.2.1, s14.2.2.2.2.2.2.2.2.2.2.2.2.2.1, s14.2.2.2.2.2.2.2.2.2.2.2.2.2.2.1, s14.2.2.2.2.2.2.2.2.2.2.2.2.2.2.2.1, ()) h15 d16) fun j17 =>
pIdxS s9.2.2.1 s9.1 1 fun v19 =>
pLoad1 h10 v19 fun v20 =>
pIdxS s9.2.2.2.2.2.1 v20 14 fun v21 =>
pFieldA v21 4 fun v22 =>
pLoad1 h10 v22 fun v23 =>
pInt .eql v23 (.int .i64 (.ofNat 2)) fun v24 =>
pCond v24 (
pIdxS s9.2.2.2.2.2.1 v20 14 fun v25 =>
pFieldA v25 11 fun v26 =>
pLoad1 h10 v26 fun v27 =>
pCall c (.fn 14 [] []) [s9.2.2.2.1, v27] h10 fun v28 h29 =>
j17 (v24, v23, v22, v21, v20, s9.2.2.2.2.2.1, v20, v19, v13, s9.1, s9.2.1, s9.2.2.1, v20, v28, s9.2.2.2.2.1, s9.2.2.2.2.2.1, ()) h29 d11) (
j17 (v24, v23, v22, v21, v20, s9.2.2.2.2.2.1, v20, v19, v13, s9.1, s9.2.1, s9.2.2.1, v20, s9.2.2.2.1, s9.2.2.2.2.1, s9.2.2.2.2.2.1, ()) h10 d11)) (
pLeave d11 h10 fun h30 =>
some (s9.2.2.2.1, h30))) ((.int .i64 (.ofNat 0)), v8, v7, v0, .nils, a1, ()) h3 []
theorem S6_eq (c : CV) (a0 a1 a2 : AV) (h : AH) : enterK Try.prog NN P6 c 6 [a0, a1, a2] h = S6 c a0 a1 a2 h := by kernel_rfl
def W6 (c : CV) (l : List AV) (h : AH) : R := match l with | [a0, a1, a2] => S6 c a0 a1 a2 h | _ => none
theorem W6_ok : WOk Try.prog 6 W6 := by
  intro c l h r e
  unfold W6 at e
  split at e
  · exact ⟨P6, by rw [S6_eq]; exact e⟩
  · cases e
/- quietus/quietusbook.Same[int] -/
def P7 : Pl := (.n none .z (.n none .z (.n none (.n none .z (.n none (.n (some [5, 4, 1, 0]) .z .z) .z)) .z)))
def S7 (_ : CV) (a0 a1 : AV) (h : AH) : R :=
pLenS a0 fun v0 =>
pLenS a1 fun v1 =>
pInt .neq v0 v1 fun v2 =>
pCond v2 (
some ((.bool false), h)) (
loopC (σ := AV × AV × AV × AV × Unit) NN (fun i6 s3 h4 d5 =>
pLenS s3.2.2.2.1 fun v7 =>
pInt .lss s3.1 v7 fun v8 =>
pCond v8 (
pIdxS s3.2.2.2.1 s3.1 1 fun v9 =>
pLoad1 h4 v9 fun v10 =>
pIdxS s3.2.2.1 s3.1 1 fun v11 =>
pLoad1 h4 v11 fun v12 =>
pInt .neq v10 v12 fun v13 =>
pCond v13 (
pLeave d5 h4 fun h14 =>
some ((.bool false), h14)) (
pInt .add s3.1 (.int .i64 (.ofNat 1)) fun v15 =>
i6 (v15, s3.2.1, s3.2.2.1, s3.2.2.2.1, ()) h4 d5)) (
pLeave d5 h4 fun h16 =>
some ((.bool true), h16))) ((.int .i64 (.ofNat 0)), (.bool false), a1, a0, ()) h [])
theorem S7_eq (c : CV) (a0 a1 : AV) (h : AH) : enterK Try.prog NN P7 c 7 [a0, a1] h = S7 c a0 a1 h := by kernel_rfl
def W7 (c : CV) (l : List AV) (h : AH) : R := match l with | [a0, a1] => S7 c a0 a1 h | _ => none
theorem W7_ok : WOk Try.prog 7 W7 := by
  intro c l h r e
  unfold W7 at e
  split at e
  · exact ⟨P7, by rw [S7_eq]; exact e⟩
  · cases e
/- quietus/history.Order -/
def P8 : Pl := (.n none .z (.n none .z (.n none (.n none .z (.n none (.n (some [10, 9, 3, 2, 1]) .z .z) .z)) .z)))
def S8 (c : CV) (a0 : AV) (h : AH) : R :=
pBox h 30 a0 fun v0 h1 =>
pLoad1 h1 v0 fun v2 =>
pLenS v2 fun v3 =>
pMake h1 3 [(.int .i64 (.ofNat 0))] v3 v3 fun v4 h5 =>
pLenS v4 fun v6 =>
loopC (σ := AV × AV × AV × AV × AV × Unit) NN (fun i10 s7 h8 d9 =>
pInt .lss s7.1 s7.2.1 fun v11 =>
pCond v11 (
pIdxS s7.2.2.1 s7.1 1 fun v12 =>
pStore h8 v12 s7.1 1 fun h13 =>
pInt .add s7.1 (.int .i64 (.ofNat 1)) fun v14 =>
i10 (v14, s7.2.1, s7.2.2.1, s7.2.2.2.1, s7.2.2.2.2.1, ()) h13 d9) (
pCall c (.fn 15 [] []) [s7.2.2.1, (.fn 16 [] [s7.2.2.2.2.1])] h8 fun _ h16 =>
pLeave d9 h16 fun h17 =>
some (s7.2.2.1, h17))) ((.int .i64 (.ofNat 0)), v6, v4, .nils, v0, ()) h5 []
theorem S8_eq (c : CV) (a0 : AV) (h : AH) : enterK Try.prog NN P8 c 8 [a0] h = S8 c a0 h := by kernel_rfl
def W8 (c : CV) (l : List AV) (h : AH) : R := match l with | [a0] => S8 c a0 h | _ => none
theorem W8_ok : WOk Try.prog 8 W8 := by
  intro c l h r e
  unfold W8 at e
  split at e
  · exact ⟨P8, by rw [S8_eq]; exact e⟩
  · cases e
/- quietus/history.Less -/
def P9 : Pl := (.n none .z (.n none (.n none (.n none .z (.n none .z (.n none (.r [[16, 4, 3, 2]]) .z))) .z) .z))
def S9 (c : CV) (a0 a1 : AV) (h : AH) : R :=
pBox h 29 a0 fun v0 h1 =>
pBox h1 29 a1 fun v2 h3 =>
pFieldA v0 7 fun v4 =>
pLoad1 h3 v4 fun v5 =>
pFieldA v2 7 fun v6 =>
pLoad1 h3 v6 fun v7 =>
pInt .neq v5 v7 fun v8 =>
pCond v8 (
pFieldA v0 7 fun v9 =>
pLoad1 h3 v9 fun v10 =>
pFieldA v2 7 fun v11 =>
pLoad1 h3 v11 fun v12 =>
pInt .lss v10 v12 fun v13 =>
some (v13, h3)) (
joinC (α := AV × AV × AV × AV × Unit → AH → R) (fun s14 h15 =>
pCond s14.1 (
pLoadN h15 s14.2.2.2.1 14 fun v17 =>
pCall c (.fn 17 [] []) [v17] h15 fun v18 h19 =>
some (v18, h19)) (
pFieldA s14.2.2.2.1 8 fun v20 =>
pLoad1 h15 v20 fun v21 =>
pFieldA s14.2.2.1 8 fun v22 =>
pLoad1 h15 v22 fun v23 =>
pInt .lss v21 v23 fun v24 =>
some (v24, h15))) fun j16 =>
pLoadN h3 v0 14 fun v25 =>
pCall c (.fn 17 [] []) [v25] h3 fun v26 h27 =>
pLoadN h27 v2 14 fun v28 =>
pCall c (.fn 17 [] []) [v28] h27 fun v29 h30 =>
pEq .bool true v26 v29 fun v31 =>
pChk v2 (some 14) v28 h3 h27 h3.nx <|
j16 (v31, (.bool false), v2, v0, ()) h30)
theorem S9_eq (c : CV) (a0 a1 : AV) (h : AH) : enterK Try.prog NN P9 c 9 [a0, a1] h = S9 c a0 a1 h := by kernel_rfl
def W9 (c : CV) (l : List AV) (h : AH) : R := match l with | [a0, a1] => S9 c a0 a1 h | _ => none
theorem W9_ok : WOk Try.prog 9 W9 := by
  intro c l h r e
  unfold W9 at e
  split at e
  · exact ⟨P9, by rw [S9_eq]; exact e⟩
  · cases e
/- quietus/history.Keeps -/
def P10 : Pl := (.n none .z (.n none .z (.n none (.n none .z (.n none (.n (some [16, 15, 14, 3, 2, 0]) .z .z) .z)) (.n none (.n none .z (.n none (.n (some [28, 27, 26, 3, 2, 0]) (.n none .z (.n none .z (.n none (.n none (.n none .z (.n none .z (.n none (.n (some [35, 34, 33, 32, 31, 30, 29, 28, 27, 26, 7, 6, 3, 2, 0]) (.n none .z (.n none .z (.n none (.n none (.n none .z (.n none (.r [[48, 47, 46, 45, 44, 43, 42, 41, 40, 39, 38, 37, 36, 35, 34, 33, 32, 31, 30, 29, 28, 27, 26, 9, 8, 7, 6, 3, 2, 0], [59, 58, 57, 56, 55, 54, 53, 52, 51, 50, 49, 48, 47, 46, 45, 44, 43, 42, 41, 40, 39, 38, 37, 36, 35, 34, 33, 32, 31, 30, 29, 28, 27, 26, 9, 8, 7, 6, 3, 2, 0]]) .z)) .z) .z))) .z) .z))) .z) .z))) .z) .z)) .z))))
def S10 (c : CV) (a0 : AV) (h : AH) : R :=
pLenS a0 fun v0 =>
pMake h 3 [(.int .i64 (.ofNat 0))] v0 v0 fun v1 h2 =>
pCall c (.fn 8 [] []) [a0] h2 fun v3 h4 =>
pLenS v3 fun v5 =>
loopC (σ := AV × AV × AV × AV × AV × AV × Unit) NN (fun i9 s6 h7 d8 =>
pInt .lss s6.1 s6.2.1 fun v10 =>
pCond v10 (
pIdxS s6.2.2.1 s6.1 1 fun v11 =>
pLoad1 h7 v11 fun v12 =>
pIdxS s6.2.2.2.1 v12 1 fun v13 =>
pStore h7 v13 s6.1 1 fun h14 =>
pInt .add s6.1 (.int .i64 (.ofNat 1)) fun v15 =>
i9 (v15, s6.2.1, s6.2.2.1, s6.2.2.2.1, s6.2.2.2.2.1, s6.2.2.2.2.2.1, ()) h14 d8) (
pLenS s6.2.2.2.2.2.1 fun v16 =>
loopC (σ := AV × AV × AV × AV × AV × AV × Unit) NN (fun i20 s17 h18 d19 =>
pInt .lss s17.1 s17.2.1 fun v21 =>
pCond v21 (
pIdxS s17.2.2.1 s17.1 14 fun v22 =>
pLoadN h18 v22 14 fun v23 =>
pBox h18 29 (.agg [(.int .i64 (.ofNat 0)), (.int .i64 (.ofNat 0)), (.int .i64 (.ofNat 0)), (.bool false), (.int .i64 (.ofNat 0)), (.int .i64 (.ofNat 0)), (.int .u64 (.ofNat 0)), (.int .u64 (.ofNat 0)), (.int .i64 (.ofNat 0)), (.int .i64 (.ofNat 0)), .nils, .nils, .nils, (.str [])]) fun v24 h25 =>
pStore h25 v24 v23 14 fun h26 =>
pLenS s17.2.2.2.2.2.1 fun v27 =>
loopC (σ := AV × AV × AV × AV × AV × AV × AV × AV × AV × AV × AV × AV × AV × AV × AV × Unit) NN (fun i31 s28 h29 d30 =>
pInt .lss s28.1 s28.2.1 fun v32 =>
pCond v32 (
pIdxS s28.2.2.1 s28.1 14 fun v33 =>
pLoadN h29 v33 14 fun v34 =>
pBox h29 29 (.agg [(.int .i64 (.ofNat 0)), (.int .i64 (.ofNat 0)), (.int .i64 (.ofNat 0)), (.bool false), (.int .i64 (.ofNat 0)), (.int .i64 (.ofNat 0)), (.int .u64 (.ofNat 0)), (.int .u64 (.ofNat 0)), (.int .i64 (.ofNat 0)), (.int .i64 (.ofNat 0)), .nils, .nils, .nils, (.str [])]) fun v35 h36 =>
pStore h36 v35 v34 14 fun h37 =>
pFieldA s28.2.2.2.2.2.2.2.2.2.2.1 9 fun v38 =>
pLoad1 h37 v38 fun v39 =>
pInt .gtr v39 (.int .i64 (.ofNat 0)) fun v40 =>
joinC (α := AV × AV × AV × AV × AV × AV × AV × AV × AV × AV × AV × AV × AV × AV × AV × AV × AV × AV × AV × AV × AV × AV × AV × AV × AV × AV × AV × AV × AV × AV × Unit → AH → R) (fun s41 h42 =>
pPick s41.2.2.2.2.2.1 s41.1 (.bool false) fun v44 =>
joinC (α := AV × AV × AV × AV × AV × AV × AV × AV × AV × AV × AV × AV × AV × AV × AV × AV × AV × AV × AV × AV × AV × AV × AV × AV × AV × AV × AV × AV × AV × AV × AV × AV × AV × AV × AV × AV × AV × AV × AV × AV × AV × Unit → AH → R) (fun s45 h46 =>
pPick s45.2.2.2.2.2.2.2.2.2.1 s45.1 (.bool false) fun v48 =>
pCond v48 (
pLeave d30 h46 fun h49 =>
some ((.bool false), h49)) (
pInt .add s45.2.2.2.2.2.2.2.2.2.2.2.2.2.2.2.2.2.2.2.2.2.2.2.2.1 (.int .i64 (.ofNat 1)) fun v50 =>
i31 (v50, s45.2.2.2.2.2.2.2.2.2.2.2.2.2.2.2.2.2.2.2.2.2.2.2.2.2.1, s45.2.2.2.2.2.2.2.2.2.2.2.2.2.2.2.2.2.2.2.2.2.2.2.2.2.2.1, s45.2.2.2.2.2.2.2.2.2.2.2.2.2.2.2.2.2.2.2.2.2.2.2.2.2.2.2.1, s45.2.2.2.2.2.2.2.2.2.2.2.2.2.2.2.2.2.2.2.2.2.2.2.2.2.2.2.2.1, s45.2.2.2.2.2.2.2.2.2.2.2.2.2.2.2.2.2.2.2.2.2.2.2.2.2.2.2.2.2.1, s45.2.2.2.2.2.2.2.2.2.2.2.2.2.2.2.2.2.2.2.2.2.2.2.2.2.2.2.2.2.2.1, s45.2.2.2.2.2.2.2.2.2.2.2.2.2.2.2.2.2.2.2.2.2.2.2.2.2.2.2.2.2.2.2.1, s45.2.2.2.2.2.2.2.2.2.2.2.2.2.2.2.2.2.2.2.2.2.2.2.2.2.2.2.2.2.2.2.2.1, s45.2.2.2.2.2.2.2.2.2.2.2.2.2.2.2.2.2.2.2.2.2.2.2.2.2.2.2.2.2.2.2.2.2.1, s45.2.2.2.2.2.2.2.2.2.2.2.2.2.2.2.2.2.2.2.2.2.2.2.2.2.2.2.2.2.2.2.2.2.2.2.2.1, s45.2.2.2.2.2.2.2.2.2.2.2.2.2.2.2.2.2.2.2.2.2.2.2.2.2.2.2.2.2.2.2.2.2.2.2.2.2.1, s45.2.2.2.2.2.2.2.2.2.2.2.2.2.2.2.2.2.2.2.2.2.2.2.2.2.2.2.2.2.2.2.2.2.2.2.2.2.2.1, s45.2.2.2.2.2.2.2.2.2.2.2.2.2.2.2.2.2.2.2.2.2.2.2.2.2.2.2.2.2.2.2.2.2.2.2.2.2.2.2.1, s45.2.2.2.2.2.2.2.2.2.2.2.2.2.2.2.2.2.2.2.2.2.2.2.2.2.2.2.2.2.2.2.2.2.2.2.2.2.2.2.2.1, ()) h46 d30)) fun j47 =>
pWant v44 true (
pIdxS s41.2.2.2.2.2.2.2.2.2.2.2.2.2.2.2.2.2.2.2.2.2.2.2.2.2.2.2.1 s41.2.2.2.2.2.2.2.2.2.2.2.2.2.2.2.2.2.2.2.2.2.2.2.2.2.2.1 1 fun v51 =>
pLoad1 h42 v51 fun v52 =>
pIdxS s41.2.2.2.2.2.2.2.2.2.2.2.2.2.2.2.2.2.2.2.2.2.2.2.2.2.2.2.1 s41.2.2.2.2.2.2.2.2.2.2.2.2.2.2.2.2.2.2.2.2.2.2.2.2.1 1 fun v53 =>
pLoad1 h42 v53 fun v54 =>
pInt .gtr v52 v54 fun v55 =>
j47 (v55, v54, v53, s41.2.2.2.2.2.2.2.2.2.2.2.2.2.2.2.2.2.2.2.2.2.2.2.2.1, s41.2.2.2.2.2.2.2.2.2.2.2.2.2.2.2.2.2.2.2.2.2.2.2.2.2.2.2.1, v52, v51, s41.2.2.2.2.2.2.2.2.2.2.2.2.2.2.2.2.2.2.2.2.2.2.2.2.2.2.1, s41.2.2.2.2.2.2.2.2.2.2.2.2.2.2.2.2.2.2.2.2.2.2.2.2.2.2.2.1, v44, v44, s41.1, s41.2.1, s41.2.2.1, s41.2.2.2.1, s41.2.2.2.2.1, s41.2.2.2.2.2.1, s41.2.2.2.2.2.2.1, s41.2.2.2.2.2.2.2.1, s41.2.2.2.2.2.2.2.2.1, s41.2.2.2.2.2.2.2.2.2.1, s41.2.2.2.2.2.2.2.2.2.2.1, s41.2.2.2.2.2.2.2.2.2.2.2.1, s41.2.2.2.2.2.2.2.2.2.2.2.2.1, s41.2.2.2.2.2.2.2.2.2.2.2.2.2.1, s41.2.2.2.2.2.2.2.2.2.2.2.2.2.2.1, s41.2.2.2.2.2.2.2.2.2.2.2.2.2.2.2.1, s41.2.2.2.2.2.2.2.2.2.2.2.2.2.2.2.2.1, s41.2.2.2.2.2.2.2.2.2.2.2.2.2.2.2.2.2.1, s41.2.2.2.2.2.2.2.2.2.2.2.2.2.2.2.2.2.2.1, s41.2.2.2.2.2.2.2.2.2.2.2.2.2.2.2.2.2.2.2.1, s41.2.2.2.2.2.2.2.2.2.2.2.2.2.2.2.2.2.2.2.2.1, s41.2.2.2.2.2.2.2.2.2.2.2.2.2.2.2.2.2.2.2.2.2.1, s41.2.2.2.2.2.2.2.2.2.2.2.2.2.2.2.2.2.2.2.2.2.2.1, s41.2.2.2.2.2.2.2.2.2.2.2.2.2.2.2.2.2.2.2.2.2.2.2.1, s41.2.2.2.2.2.2.2.2.2.2.2.2.2.2.2.2.2.2.2.2.2.2.2.2.1, s41.2.2.2.2.2.2.2.2.2.2.2.2.2.2.2.2.2.2.2.2.2.2.2.2.2.1, s41.2.2.2.2.2.2.2.2.2.2.2.2.2.2.2.2.2.2.2.2.2.2.2.2.2.2.1, s41.2.2.2.2.2.2.2.2.2.2.2.2.2.2.2.2.2.2.2.2.2.2.2.2.2.2.2.1, s41.2.2.2.2.2.2.2.2.2.2.2.2.2.2.2.2.2.2.2.2.2.2.2.2.2.2.2.2.1, s41.2.2.2.2.2.2.2.2.2.2.2.2.2.2.2.2.2.2.2.2.2.2.2.2.2.2.2.2.2.1, ()) h42) (
j47 (.undef, .undef, .undef, .undef, .undef, .undef, .undef, .undef, .undef, v44, v44, s41.1, s41.2.1, s41.2.2.1, s41.2.2.2.1, s41.2.2.2.2.1, s41.2.2.2.2.2.1, s41.2.2.2.2.2.2.1, s41.2.2.2.2.2.2.2.1, s41.2.2.2.2.2.2.2.2.1, s41.2.2.2.2.2.2.2.2.2.1, s41.2.2.2.2.2.2.2.2.2.2.1, s41.2.2.2.2.2.2.2.2.2.2.2.1, s41.2.2.2.2.2.2.2.2.2.2.2.2.1, s41.2.2.2.2.2.2.2.2.2.2.2.2.2.1, s41.2.2.2.2.2.2.2.2.2.2.2.2.2.2.1, s41.2.2.2.2.2.2.2.2.2.2.2.2.2.2.2.1, s41.2.2.2.2.2.2.2.2.2.2.2.2.2.2.2.2.1, s41.2.2.2.2.2.2.2.2.2.2.2.2.2.2.2.2.2.1, s41.2.2.2.2.2.2.2.2.2.2.2.2.2.2.2.2.2.2.1, s41.2.2.2.2.2.2.2.2.2.2.2.2.2.2.2.2.2.2.2.1, s41.2.2.2.2.2.2.2.2.2.2.2.2.2.2.2.2.2.2.2.2.1, s41.2.2.2.2.2.2.2.2.2.2.2.2.2.2.2.2.2.2.2.2.2.1, s41.2.2.2.2.2.2.2.2.2.2.2.2.2.2.2.2.2.2.2.2.2.2.1, s41.2.2.2.2.2.2.2.2.2.2.2.2.2.2.2.2.2.2.2.2.2.2.2.1, s41.2.2.2.2.2.2.2.2.2.2.2.2.2.2.2.2.2.2.2.2.2.2.2.2.1, s41.2.2.2.2.2.2.2.2.2.2.2.2.2.2.2.2.2.2.2.2.2.2.2.2.2.1, s41.2.2.2.2.2.2.2.2.2.2.2.2.2.2.2.2.2.2.2.2.2.2.2.2.2.2.1, s41.2.2.2.2.2.2.2.2.2.2.2.2.2.2.2.2.2.2.2.2.2.2.2.2.2.2.2.1, s41.2.2.2.2.2.2.2.2.2.2.2.2.2.2.2.2.2.2.2.2.2.2.2.2.2.2.2.2.1, s41.2.2.2.2.2.2.2.2.2.2.2.2.2.2.2.2.2.2.2.2.2.2.2.2.2.2.2.2.2.1, ()) h42)) fun j43 =>
pWant v40 true (
pFieldA s28.2.2.2.2.2.2.2.2.2.2.1 9 fun v56 =>
pLoad1 h37 v56 fun v57 =>
pFieldA v35 8 fun v58 =>
pLoad1 h37 v58 fun v59 =>
pInt .lss v57 v59 fun v60 =>
j43 (v60, v59, v58, v57, v56, v40, v40, v39, v38, v34, v33, s28.1, v32, s28.1, s28.2.1, s28.2.2.1, s28.2.2.2.1, s28.2.2.2.2.1, s28.2.2.2.2.2.1, s28.2.2.2.2.2.2.1, s28.2.2.2.2.2.2.2.1, s28.2.2.2.2.2.2.2.2.1, s28.2.2.2.2.2.2.2.2.2.1, v35, s28.1, s28.2.2.2.2.2.2.2.2.2.2.1, s28.2.2.2.2.2.2.2.2.2.2.2.1, s28.2.2.2.2.2.2.2.2.2.2.2.2.1, s28.2.2.2.2.2.2.2.2.2.2.2.2.2.1, s28.2.2.2.2.2.2.2.2.2.2.2.2.2.2.1, ()) h37) (
j43 (.undef, .undef, .undef, .undef, .undef, v40, v40, v39, v38, v34, v33, s28.1, v32, s28.1, s28.2.1, s28.2.2.1, s28.2.2.2.1, s28.2.2.2.2.1, s28.2.2.2.2.2.1, s28.2.2.2.2.2.2.1, s28.2.2.2.2.2.2.2.1, s28.2.2.2.2.2.2.2.2.1, s28.2.2.2.2.2.2.2.2.2.1, v35, s28.1, s28.2.2.2.2.2.2.2.2.2.2.1, s28.2.2.2.2.2.2.2.2.2.2.2.1, s28.2.2.2.2.2.2.2.2.2.2.2.2.1, s28.2.2.2.2.2.2.2.2.2.2.2.2.2.1, s28.2.2.2.2.2.2.2.2.2.2.2.2.2.2.1, ()) h37)) (
pInt .add s28.2.2.2.2.2.2.2.1 (.int .i64 (.ofNat 1)) fun v61 =>
i20 (v61, s28.2.2.2.2.2.2.2.2.1, s28.2.2.2.2.2.2.2.2.2.1, s28.2.2.2.2.2.2.2.2.2.2.2.2.1, s28.2.2.2.2.2.2.2.2.2.2.2.2.2.1, s28.2.2.2.2.2.2.2.2.2.2.2.2.2.2.1, ()) h29 d30)) ((.int .i64 (.ofNat 0)), v27, s17.2.2.2.2.2.1, v23, v22, s17.1, v21, s17.1, s17.2.1, s17.2.2.1, v24, s17.1, s17.2.2.2.1, s17.2.2.2.2.1, s17.2.2.2.2.2.1, ()) h26 d19) (
pLeave d19 h18 fun h62 =>
some ((.bool true), h62))) ((.int .i64 (.ofNat 0)), v16, s6.2.2.2.2.2.1, s6.2.2.2.1, s6.2.2.2.2.1, s6.2.2.2.2.2.1, ()) h7 d8)) ((.int .i64 (.ofNat 0)), v5, v3, v1, (.bool false), a0, ()) h4 []
theorem S10_eq (c : CV) (a0 : AV) (h : AH) : enterK Try.prog NN P10 c 10 [a0] h = S10 c a0 h := by kernel_rfl
def W10 (c : CV) (l : List AV) (h : AH) : R := match l with | [a0] => S10 c a0 h | _ => none
theorem W10_ok : WOk Try.prog 10 W10 := by
  intro c l h r e
  unfold W10 at e
  split at e
  · exact ⟨P10, by rw [S10_eq]; exact e⟩
  · cases e
/- quietus/history.True -/
def P11 : Pl := (.n none .z (.n none .z (.n none (.n none .z (.n none (.n (some [15, 14, 13, 5, 4, 1]) (.n none .z (.n none .z (.n none (.n (some [55, 54, 53, 52, 51, 50, 26, 25, 24, 23, 22, 21, 20, 19, 18, 17, 16, 15, 14, 13, 7, 5, 4, 1]) (.n none .z (.n none (.n none .z (.n none (.n (some [25, 24, 23, 22, 21, 20, 19, 18, 17, 16, 15, 14, 13, 7, 5, 4, 1]) (.n none .z (.n none .z (.n none (.n none (.n none .z (.n none (.r [[37, 36, 35, 34, 33, 32, 31, 30, 29, 28, 27, 26, 25, 24, 23, 22, 21, 20, 19, 18, 17, 16, 15, 14, 13, 9, 7, 5, 4, 1], [47, 46, 45, 44, 43, 42, 41, 40, 39, 38, 37, 36, 35, 34, 33, 32, 31, 30, 29, 28, 27, 26, 25, 24, 23, 22, 21, 20, 19, 18, 17, 16, 15, 14, 13, 9, 7, 5, 4, 1]]) .z)) .z) .z))) .z) .z)) .z)) .z) .z))) .z) .z)) .z)))
def S11 (c : CV) (a0 a1 : AV) (h : AH) : R :=
pCall c (.fn 14 [] []) [a0, .nils] h fun v0 h1 =>
pCall c (.fn 8 [] []) [a1] h1 fun v2 h3 =>
pLenS v2 fun v4 =>
loopC (σ := AV × AV × AV × AV × AV × AV × Unit) NN (fun i8 s5 h6 d7 =>
pInt .lss s5.1 s5.2.1 fun v9 =>
pCond v9 (
joinC (α := AV × AV × AV × AV × AV × AV × AV × AV × AV × AV × AV × AV × AV × AV × AV × AV × AV × AV × AV × AV × AV × AV × AV × AV × Unit → AH → List Nat → R) (fun s10 h11 d12 =>
pInt .add s10.2.2.2.2.2.2.2.2.2.2.2.2.2.2.2.2.2.1 (.int .i64 (.ofNat 1)) fun v14 =>
i8 (v14, s10.2.2.2.2.2.2.2.2.2.2.2.2.2.2.2.2.2.2.1, s10.2.2.2.2.2.2.2.2.2.2.2.2.2.2.2.2.2.2.2.1, s10.2.2.2.2.2.2.2.2.2.2.2.2.2.2.2.2.2.2.2.2.2.1, s10.2.2.2.2.2.2.2.2.2.2.2.2.2.2.2.2.2.2.2.2.2.2.1, s10.2.2.2.2.2.2.2.2.2.2.2.2.2.2.2.2.2.2.2.2.2.2.2.1, ()) h11 d12) fun j13 =>
pIdxS s5.2.2.1 s5.1 1 fun v15 =>
pLoad1 h6 v15 fun v16 =>
pIdxS s5.2.2.2.2.2.1 v16 14 fun v17 =>
pFieldA v17 10 fun v18 =>
pLoad1 h6 v18 fun v19 =>
pLenS v19 fun v20 =>
loopC (σ := AV × AV × AV × AV × AV × AV × AV × AV × AV × AV × AV × AV × AV × AV × AV × AV × AV × Unit) NN (fun i24 s21 h22 d23 =>
pInt .lss s21.1 s21.2.1 fun v25 =>
pCond v25 (
pIdxS s21.2.2.1 s21.1 2 fun v26 =>
pLoadN h22 v26 2 fun v27 =>
pBox h22 24 (.agg [(.int .i64 (.ofNat 0)), (.int .u64 (.ofNat 0))]) fun v28 h29 =>
pStore h29 v28 v27 2 fun h30 =>
pFieldA v28 0 fun v31 =>
pLoad1 h30 v31 fun v32 =>
pInt .lss v32 (.int .i64 (.ofNat 1)) fun v33 =>
joinC (α := AV × AV × AV × AV × AV × AV × AV × AV × AV × AV × AV × AV × AV × AV × AV × AV × AV × AV × AV × AV × AV × AV × AV × AV × AV × AV × AV × AV × AV × AV × Unit → AH → R) (fun s34 h35 =>
pPick s34.2.2.2.2.2.1 (.bool true) s34.1 fun v37 =>
joinC (α := AV × AV × AV × AV × AV × AV × AV × AV × AV × AV × AV × AV × AV × AV × AV × AV × AV × AV × AV × AV × AV × AV × AV × AV × AV × AV × AV × AV × AV × AV × AV × AV × AV × AV × AV × AV × AV × AV × AV × AV × Unit → AH → R) (fun s38 h39 =>
pPick s38.2.2.2.2.2.2.2.2.1 (.bool true) s38.1 fun v41 =>
pCond v41 (
pLeave d23 h39 fun h42 =>
some ((.bool false), h42)) (
pInt .add s38.2.2.2.2.2.2.2.2.2.2.2.2.2.2.2.2.2.2.2.2.2.2.1 (.int .i64 (.ofNat 1)) fun v43 =>
i24 (v43, s38.2.2.2.2.2.2.2.2.2.2.2.2.2.2.2.2.2.2.2.2.2.2.2.1, s38.2.2.2.2.2.2.2.2.2.2.2.2.2.2.2.2.2.2.2.2.2.2.2.2.1, s38.2.2.2.2.2.2.2.2.2.2.2.2.2.2.2.2.2.2.2.2.2.2.2.2.2.1, s38.2.2.2.2.2.2.2.2.2.2.2.2.2.2.2.2.2.2.2.2.2.2.2.2.2.2.1, s38.2.2.2.2.2.2.2.2.2.2.2.2.2.2.2.2.2.2.2.2.2.2.2.2.2.2.2.1, s38.2.2.2.2.2.2.2.2.2.2.2.2.2.2.2.2.2.2.2.2.2.2.2.2.2.2.2.2.1, s38.2.2.2.2.2.2.2.2.2.2.2.2.2.2.2.2.2.2.2.2.2.2.2.2.2.2.2.2.2.1, s38.2.2.2.2.2.2.2.2.2.2.2.2.2.2.2.2.2.2.2.2.2.2.2.2.2.2.2.2.2.2.1, s38.2.2.2.2.2.2.2.2.2.2.2.2.2.2.2.2.2.2.2.2.2.2.2.2.2.2.2.2.2.2.2.1, s38.2.2.2.2.2.2.2.2.2.2.2.2.2.2.2.2.2.2.2.2.2.2.2.2.2.2.2.2.2.2.2.2.1, s38.2.2.2.2.2.2.2.2.2.2.2.2.2.2.2.2.2.2.2.2.2.2.2.2.2.2.2.2.2.2.2.2.2.1, s38.2.2.2.2.2.2.2.2.2.2.2.2.2.2.2.2.2.2.2.2.2.2.2.2.2.2.2.2.2.2.2.2.2.2.1, s38.2.2.2.2.2.2.2.2.2.2.2.2.2.2.2.2.2.2.2.2.2.2.2.2.2.2.2.2.2.2.2.2.2.2.2.2.1, s38.2.2.2.2.2.2.2.2.2.2.2.2.2.2.2.2.2.2.2.2.2.2.2.2.2.2.2.2.2.2.2.2.2.2.2.2.2.1, s38.2.2.2.2.2.2.2.2.2.2.2.2.2.2.2.2.2.2.2.2.2.2.2.2.2.2.2.2.2.2.2.2.2.2.2.2.2.2.1, s38.2.2.2.2.2.2.2.2.2.2.2.2.2.2.2.2.2.2.2.2.2.2.2.2.2.2.2.2.2.2.2.2.2.2.2.2.2.2.2.1, ()) h39 d23)) fun j40 =>
pWant v37 false (
pFieldA s34.2.2.2.2.2.2.2.2.2.2.2.2.2.2.2.2.2.2.2.2.2.2.2.2.2.1 0 fun v44 =>
pLoad1 h35 v44 fun v45 =>
pIdxS s34.2.2.2.2.2.2.2.2.2.2.2.2.2.2.2.2.2.2.2.2.2.2.2.2.2.2.2.1 v45 1 fun v46 =>
pLoad1 h35 v46 fun v47 =>
pFieldA s34.2.2.2.2.2.2.2.2.2.2.2.2.2.2.2.2.2.2.2.2.2.2.2.2.2.1 1 fun v48 =>
pLoad1 h35 v48 fun v49 =>
pInt .neq v47 v49 fun v50 =>
j40 (v50, v49, v48, v47, v46, v45, v44, s34.2.2.2.2.2.2.2.2.2.2.2.2.2.2.2.2.2.2.2.2.2.2.2.2.2.2.2.1, v37, v37, s34.1, s34.2.1, s34.2.2.1, s34.2.2.2.1, s34.2.2.2.2.1, s34.2.2.2.2.2.1, s34.2.2.2.2.2.2.1, s34.2.2.2.2.2.2.2.1, s34.2.2.2.2.2.2.2.2.1, s34.2.2.2.2.2.2.2.2.2.1, s34.2.2.2.2.2.2.2.2.2.2.1, s34.2.2.2.2.2.2.2.2.2.2.2.1, s34.2.2.2.2.2.2.2.2.2.2.2.2.1, s34.2.2.2.2.2.2.2.2.2.2.2.2.2.1, s34.2.2.2.2.2.2.2.2.2.2.2.2.2.2.1, s34.2.2.2.2.2.2.2.2.2.2.2.2.2.2.2.1, s34.2.2.2.2.2.2.2.2.2.2.2.2.2.2.2.2.1, s34.2.2.2.2.2.2.2.2.2.2.2.2.2.2.2.2.2.1, s34.2.2.2.2.2.2.2.2.2.2.2.2.2.2.2.2.2.2.1, s34.2.2.2.2.2.2.2.2.2.2.2.2.2.2.2.2.2.2.2.1, s34.2.2.2.2.2.2.2.2.2.2.2.2.2.2.2.2.2.2.2.2.1, s34.2.2.2.2.2.2.2.2.2.2.2.2.2.2.2.2.2.2.2.2.2.1, s34.2.2.2.2.2.2.2.2.2.2.2.2.2.2.2.2.2.2.2.2.2.2.1, s34.2.2.2.2.2.2.2.2.2.2.2.2.2.2.2.2.2.2.2.2.2.2.2.1, s34.2.2.2.2.2.2.2.2.2.2.2.2.2.2.2.2.2.2.2.2.2.2.2.2.1, s34.2.2.2.2.2.2.2.2.2.2.2.2.2.2.2.2.2.2.2.2.2.2.2.2.2.1, s34.2.2.2.2.2.2.2.2.2.2.2.2.2.2.2.2.2.2.2.2.2.2.2.2.2.2.1, s34.2.2.2.2.2.2.2.2.2.2.2.2.2.2.2.2.2.2.2.2.2.2.2.2.2.2.2.1, s34.2.2.2.2.2.2.2.2.2.2.2.2.2.2.2.2.2.2.2.2.2.2.2.2.2.2.2.2.1, s34.2.2.2.2.2.2.2.2.2.2.2.2.2.2.2.2.2.2.2.2.2.2.2.2.2.2.2.2.2.1, ()) h35) (
j40 (.undef, .undef, .undef, .undef, .undef, .undef, .undef, .undef, v37, v37, s34.1, s34.2.1, s34.2.2.1, s34.2.2.2.1, s34.2.2.2.2.1, s34.2.2.2.2.2.1, s34.2.2.2.2.2.2.1, s34.2.2.2.2.2.2.2.1, s34.2.2.2.2.2.2.2.2.1, s34.2.2.2.2.2.2.2.2.2.1, s34.2.2.2.2.2.2.2.2.2.2.1, s34.2.2.2.2.2.2.2.2.2.2.2.1, s34.2.2.2.2.2.2.2.2.2.2.2.2.1, s34.2.2.2.2.2.2.2.2.2.2.2.2.2.1, s34.2.2.2.2.2.2.2.2.2.2.2.2.2.2.1, s34.2.2.2.2.2.2.2.2.2.2.2.2.2.2.2.1, s34.2.2.2.2.2.2.2.2.2.2.2.2.2.2.2.2.1, s34.2.2.2.2.2.2.2.2.2.2.2.2.2.2.2.2.2.1, s34.2.2.2.2.2.2.2.2.2.2.2.2.2.2.2.2.2.2.1, s34.2.2.2.2.2.2.2.2.2.2.2.2.2.2.2.2.2.2.2.1, s34.2.2.2.2.2.2.2.2.2.2.2.2.2.2.2.2.2.2.2.2.1, s34.2.2.2.2.2.2.2.2.2.2.2.2.2.2.2.2.2.2.2.2.2.1, s34.2.2.2.2.2.2.2.2.2.2.2.2.2.2.2.2.2.2.2.2.2.2.1, s34.2.2.2.2.2.2.2.2.2.2.2.2.2.2.2.2.2.2.2.2.2.2.2.1, s34.2.2.2.2.2.2.2.2.2.2.2.2.2.2.2.2.2.2.2.2.2.2.2.2.1, s34.2.2.2.2.2.2.2.2.2.2.2.2.2.2.2.2.2.2.2.2.2.2.2.2.2.1, s34.2.2.2.2.2.2.2.2.2.2.2.2.2.2.2.2.2.2.2.2.2.2.2.2.2.2.1, s34.2.2.2.2.2.2.2.2.2.2.2.2.2.2.2.2.2.2.2.2.2.2.2.2.2.2.2.1, s34.2.2.2.2.2.2.2.2.2.2.2.2.2.2.2.2.2.2.2.2.2.2.2.2.2.2.2.2.1, s34.2.2.2.2.2.2.2.2.2.2.2.2.2.2.2.2.2.2.2.2.2.2.2.2.2.2.2.2.2.1, ()) h35)) fun j36 =>
pWant v33 false (
pFieldA v28 0 fun v51 =>
pLoad1 h30 v51 fun v52 =>
pLenS s21.2.2.2.2.2.2.2.2.2.2.2.2.2.2.1 fun v53 =>
pInt .geq v52 v53 fun v54 =>
j36 (v54, v53, s21.2.2.2.2.2.2.2.2.2.2.2.2.2.2.1, v52, v51, v33, v33, v32, v31, v27, v26, v25, s21.1, s21.2.1, s21.2.2.1, s21.2.2.2.1, s21.2.2.2.2.1, s21.2.2.2.2.2.1, s21.2.2.2.2.2.2.1, s21.2.2.2.2.2.2.2.1, s21.2.2.2.2.2.2.2.2.1, s21.2.2.2.2.2.2.2.2.2.1, s21.2.2.2.2.2.2.2.2.2.2.1, s21.2.2.2.2.2.2.2.2.2.2.2.1, s21.2.2.2.2.2.2.2.2.2.2.2.2.1, v28, s21.2.2.2.2.2.2.2.2.2.2.2.2.2.1, s21.2.2.2.2.2.2.2.2.2.2.2.2.2.2.1, s21.2.2.2.2.2.2.2.2.2.2.2.2.2.2.2.1, s21.2.2.2.2.2.2.2.2.2.2.2.2.2.2.2.2.1, ()) h30) (
j36 (.undef, .undef, .undef, .undef, .undef, v33, v33, v32, v31, v27, v26, v25, s21.1, s21.2.1, s21.2.2.1, s21.2.2.2.1, s21.2.2.2.2.1, s21.2.2.2.2.2.1, s21.2.2.2.2.2.2.1, s21.2.2.2.2.2.2.2.1, s21.2.2.2.2.2.2.2.2.1, s21.2.2.2.2.2.2.2.2.2.1, s21.2.2.2.2.2.2.2.2.2.2.1, s21.2.2.2.2.2.2.2.2.2.2.2.1, s21.2.2.2.2.2.2.2.2.2.2.2.2.1, v28, s21.2.2.2.2.2.2.2.2.2.2.2.2.2.1, s21.2.2.2.2.2.2.2.2.2.2.2.2.2.2.1, s21.2.2.2.2.2.2.2.2.2.2.2.2.2.2.2.1, s21.2.2.2.2.2.2.2.2.2.2.2.2.2.2.2.2.1, ()) h30)) (
pIdxS s21.2.2.2.2.2.2.2.2.2.2.2.2.2.2.2.2.1 s21.2.2.2.2.2.2.2.2.2.2.2.2.2.1 14 fun v55 =>
pFieldA v55 4 fun v56 =>
pLoad1 h22 v56 fun v57 =>
pInt .eql v57 (.int .i64 (.ofNat 2)) fun v58 =>
pCond v58 (
pIdxS s21.2.2.2.2.2.2.2.2.2.2.2.2.2.2.2.2.1 s21.2.2.2.2.2.2.2.2.2.2.2.2.2.1 14 fun v59 =>
pFieldA v59 11 fun v60 =>
pLoad1 h22 v60 fun v61 =>
pCall c (.fn 14 [] []) [s21.2.2.2.2.2.2.2.2.2.2.2.2.2.2.1, v61] h22 fun v62 h63 =>
j13 (v58, v57, v56, v55, s21.2.2.2.2.2.2.2.2.2.2.2.2.2.1, s21.2.2.2.2.2.2.2.2.2.2.2.2.2.2.2.2.1, v25, s21.1, s21.2.1, s21.2.2.1, s21.2.2.2.1, s21.2.2.2.2.1, s21.2.2.2.2.2.1, s21.2.2.2.2.2.2.1, s21.2.2.2.2.2.2.2.1, s21.2.2.2.2.2.2.2.2.1, s21.2.2.2.2.2.2.2.2.2.1, s21.2.2.2.2.2.2.2.2.2.2.1, s21.2.2.2.2.2.2.2.2.2.2.2.1, s21.2.2.2.2.2.2.2.2.2.2.2.2.1, s21.2.2.2.2.2.2.2.2.2.2.2.2.2.1, v62, s21.2.2.2.2.2.2.2.2.2.2.2.2.2.2.2.1, s21.2.2.2.2.2.2.2.2.2.2.2.2.2.2.2.2.1, ()) h63 d23) (
j13 (v58, v57, v56, v55, s21.2.2.2.2.2.2.2.2.2.2.2.2.2.1, s21.2.2.2.2.2.2.2.2.2.2.2.2.2.2.2.2.1, v25, s21.1, s21.2.1, s21.2.2.1, s21.2.2.2.1, s21.2.2.2.2.1, s21.2.2.2.2.2.1, s21.2.2.2.2.2.2.1, s21.2.2.2.2.2.2.2.1, s21.2.2.2.2.2.2.2.2.1, s21.2.2.2.2.2.2.2.2.2.1, s21.2.2.2.2.2.2.2.2.2.2.1, s21.2.2.2.2.2.2.2.2.2.2.2.1, s21.2.2.2.2.2.2.2.2.2.2.2.2.1, s21.2.2.2.2.2.2.2.2.2.2.2.2.2.1, s21.2.2.2.2.2.2.2.2.2.2.2.2.2.2.1, s21.2.2.2.2.2.2.2.2.2.2.2.2.2.2.2.1, s21.2.2.2.2.2.2.2.2.2.2.2.2.2.2.2.2.1, ()) h22 d23))) ((.int .i64 (.ofNat 0)), v20, v19, v18, v17, v16, s5.2.2.2.2.2.1, v16, v15, v9, s5.1, s5.2.1, s5.2.2.1, v16, s5.2.2.2.1, s5.2.2.2.2.1, s5.2.2.2.2.2.1, ()) h6 d7) (
pLeave d7 h6 fun h64 =>
some ((.bool true), h64))) ((.int .i64 (.ofNat 0)), v4, v2, v0, (.bool false), a1, ()) h3 []
theorem S11_eq (c : CV) (a0 a1 : AV) (h : AH) : enterK Try.prog NN P11 c 11 [a0, a1] h = S11 c a0 a1 h := by kernel_rfl
def W11 (c : CV) (l : List AV) (h : AH) : R := match l with | [a0, a1] => S11 c a0 a1 h | _ => none
theorem W11_ok : WOk Try.prog 11 W11 := by
  intro c l h r e
  unfold W11 at e
  split at e
  · exact ⟨P11, by rw [S11_eq]; exact e⟩
  · cases e
/- quietus/model.Apply -/
def P14 : Pl := (.n none .z (.n none .z (.n none .z (.n none (.n none .z (.n none (.n (some [23, 22, 21, 5, 4]) (.n none .z (.n none .z (.n none (.n (some [36, 35, 34, 33, 32, 31, 30, 29, 28, 27, 26, 25, 24, 23, 22, 21, 7, 5, 4]) (.n none .z (.n none (.r [[35, 34, 33, 32, 31, 30, 29, 28, 27, 26, 25, 24, 23, 22, 21, 7, 5, 4]]) .z)) .z) .z))) .z) .z)) .z))))
def S14 (_ : CV) (a0 a1 : AV) (h : AH) : R :=
pLenS a0 fun v0 =>
pMM false [v0, (.int .i64 (.ofNat 256))] fun v1 =>
pMM true [(.int .i64 (.ofNat 32)), v1] fun v2 =>
pMake h 22 [(.int .u64 (.ofNat 0))] v2 v2 fun v3 h4 =>
pSlice h4 22 1 v3 (some (.int .i64 (.ofNat 1))) none fun v5 =>
pLenS a0 fun v6 =>
pMM false [(.int .i64 (.ofNat 1)), v6] fun v7 =>
pSlice h4 22 1 a0 (some v7) none fun v8 =>
pCopy h4 1 v5 v8 fun _ h10 =>
pLenS a1 fun v11 =>
loopC (σ := AV × AV × AV × AV × AV × Unit) NN (fun i15 s12 h13 d14 =>
pInt .lss s12.1 s12.2.1 fun v16 =>
pCond v16 (
joinC (α := AV × AV × AV × AV × AV × AV × AV × AV × AV × AV × AV × AV × AV × AV × AV × AV × AV × AV × AV × Unit → AH → List Nat → R) (fun s17 h18 d19 =>
pInt .add s17.2.2.2.2.2.2.2.2.2.2.2.2.2.1 (.int .i64 (.ofNat 1)) fun v21 =>
i15 (v21, s17.2.2.2.2.2.2.2.2.2.2.2.2.2.2.1, s17.2.2.2.2.2.2.2.2.2.2.2.2.2.2.2.1, s17.2.2.2.2.2.2.2.2.2.2.2.2.2.2.2.2.2.1, s17.2.2.2.2.2.2.2.2.2.2.2.2.2.2.2.2.2.2.1, ()) h18 d19) fun j20 =>
pIdxS s12.2.2.1 s12.1 2 fun v22 =>
pLoadN h13 v22 2 fun v23 =>
pBox h13 24 (.agg [(.int .i64 (.ofNat 0)), (.int .u64 (.ofNat 0))]) fun v24 h25 =>
pStore h25 v24 v23 2 fun h26 =>
pFieldA v24 0 fun v27 =>
pLoad1 h26 v27 fun v28 =>
pInt .geq v28 (.int .i64 (.ofNat 1)) fun v29 =>
joinC (α := AV × AV × AV × AV × AV × AV × AV × AV × AV × AV × AV × AV × AV × AV × AV × AV × AV × AV × Unit → AH → R) (fun s30 h31 =>
pPick s30.2.2.2.2.2.1 s30.1 (.bool false) fun v33 =>
pCond v33 (
pFieldA s30.2.2.2.2.2.2.2.2.2.2.2.2.2.2.2.1 0 fun v34 =>
pLoad1 h31 v34 fun v35 =>
pFieldA s30.2.2.2.2.2.2.2.2.2.2.2.2.2.2.2.1 1 fun v36 =>
pLoad1 h31 v36 fun v37 =>
pIdxS s30.2.2.2.2.2.2.2.2.2.2.2.2.2.2.2.2.1 v35 1 fun v38 =>
pStore h31 v38 v37 1 fun h39 =>
j20 (v33, s30.1, s30.2.1, s30.2.2.1, s30.2.2.2.1, s30.2.2.2.2.1, s30.2.2.2.2.2.1, s30.2.2.2.2.2.2.1, s30.2.2.2.2.2.2.2.1, s30.2.2.2.2.2.2.2.2.1, s30.2.2.2.2.2.2.2.2.2.1, s30.2.2.2.2.2.2.2.2.2.2.1, s30.2.2.2.2.2.2.2.2.2.2.2.1, s30.2.2.2.2.2.2.2.2.2.2.2.2.1, s30.2.2.2.2.2.2.2.2.2.2.2.2.2.1, s30.2.2.2.2.2.2.2.2.2.2.2.2.2.2.1, s30.2.2.2.2.2.2.2.2.2.2.2.2.2.2.2.1, s30.2.2.2.2.2.2.2.2.2.2.2.2.2.2.2.2.1, s30.2.2.2.2.2.2.2.2.2.2.2.2.2.2.2.2.2.1, ()) h39 d14) (
j20 (v33, s30.1, s30.2.1, s30.2.2.1, s30.2.2.2.1, s30.2.2.2.2.1, s30.2.2.2.2.2.1, s30.2.2.2.2.2.2.1, s30.2.2.2.2.2.2.2.1, s30.2.2.2.2.2.2.2.2.1, s30.2.2.2.2.2.2.2.2.2.1, s30.2.2.2.2.2.2.2.2.2.2.1, s30.2.2.2.2.2.2.2.2.2.2.2.1, s30.2.2.2.2.2.2.2.2.2.2.2.2.1, s30.2.2.2.2.2.2.2.2.2.2.2.2.2.1, s30.2.2.2.2.2.2.2.2.2.2.2.2.2.2.1, s30.2.2.2.2.2.2.2.2.2.2.2.2.2.2.2.1, s30.2.2.2.2.2.2.2.2.2.2.2.2.2.2.2.2.1, s30.2.2.2.2.2.2.2.2.2.2.2.2.2.2.2.2.2.1, ()) h31 d14)) fun j32 =>
pWant v29 true (
pFieldA v24 0 fun v40 =>
pLoad1 h26 v40 fun v41 =>
pLenS s12.2.2.2.1 fun v42 =>
pInt .lss v41 v42 fun v43 =>
j32 (v43, v42, s12.2.2.2.1, v41, v40, v29, v29, v28, v27, v23, v22, v16, s12.1, s12.2.1, s12.2.2.1, v24, s12.2.2.2.1, s12.2.2.2.2.1, ()) h26) (
j32 (.undef, .undef, .undef, .undef, .undef, v29, v29, v28, v27, v23, v22, v16, s12.1, s12.2.1, s12.2.2.1, v24, s12.2.2.2.1, s12.2.2.2.2.1, ()) h26)) (
pLeave d14 h13 fun h44 =>
some (s12.2.2.2.1, h44))) ((.int .i64 (.ofNat 0)), v11, a1, v3, .nils, ()) h10 []
theorem S14_eq (c : CV) (a0 a1 : AV) (h : AH) : enterK Try.prog NN P14 c 14 [a0, a1] h = S14 c a0 a1 h := by kernel_rfl
def W14 (c : CV) (l : List AV) (h : AH) : R := match l with | [a0, a1] => S14 c a0 a1 h | _ => none
theorem W14_ok : WOk Try.prog 14 W14 := by
  intro c l h r e
  unfold W14 at e
  split at e
  · exact ⟨P14, by rw [S14_eq]; exact e⟩
  · cases e
/- slices.SortStableFunc[[]int,int] -/
def P15 : Pl := .z
def S15 (c : CV) (a0 a1 : AV) (h : AH) : R :=
pLenS a0 fun v0 =>
pCall c (.fn 19 [] []) [a0, v0, a1] h fun _ h2 =>
some ((.tup []), h2)
theorem S15_eq (c : CV) (a0 a1 : AV) (h : AH) : enterK Try.prog NN P15 c 15 [a0, a1] h = S15 c a0 a1 h := by kernel_rfl
def W15 (c : CV) (l : List AV) (h : AH) : R := match l with | [a0, a1] => S15 c a0 a1 h | _ => none
theorem W15_ok : WOk Try.prog 15 W15 := by
  intro c l h r e
  unfold W15 at e
  split at e
  · exact ⟨P15, by rw [S15_eq]; exact e⟩
  · cases e
/- quietus/history.Order$1 -/
def P16 : Pl := .z
def S16 (c : CV) (a0 a1 a2 : AV) (h : AH) : R :=
pLoad1 h a2 fun v0 =>
pIdxS v0 a0 14 fun v1 =>
pLoadN h v1 14 fun v2 =>
pLoad1 h a2 fun v3 =>
pIdxS v3 a1 14 fun v4 =>
pLoadN h v4 14 fun v5 =>
pCall c (.fn 9 [] []) [v2, v5] h fun v6 h7 =>
pCond v6 (
some ((.int .i64 (.negSucc 0)), h7)) (
pLoad1 h7 a2 fun v8 =>
pIdxS v8 a1 14 fun v9 =>
pLoadN h7 v9 14 fun v10 =>
pLoad1 h7 a2 fun v11 =>
pIdxS v11 a0 14 fun v12 =>
pLoadN h7 v12 14 fun v13 =>
pCall c (.fn 9 [] []) [v10, v13] h7 fun v14 h15 =>
pCond v14 (
some ((.int .i64 (.ofNat 1)), h15)) (
some ((.int .i64 (.ofNat 0)), h15)))
theorem S16_eq (c : CV) (a0 a1 a2 : AV) (h : AH) : enterK Try.prog NN P16 c 16 [a0, a1, a2] h = S16 c a0 a1 a2 h := by kernel_rfl
def W16 (c : CV) (l : List AV) (h : AH) : R := match l with | [a0, a1, a2] => S16 c a0 a1 a2 h | _ => none
theorem W16_ok : WOk Try.prog 16 W16 := by
  intro c l h r e
  unfold W16 at e
  split at e
  · exact ⟨P16, by rw [S16_eq]; exact e⟩
  · cases e
/- quietus/history.wrote -/
def P17 : Pl := (.n none .z (.n none (.r [[10, 6, 2]]) .z))
def S17 (_ : CV) (a0 : AV) (h : AH) : R :=
pBox h 29 a0 fun v0 h1 =>
pFieldA v0 4 fun v2 =>
pLoad1 h1 v2 fun v3 =>
pInt .eql v3 (.int .i64 (.ofNat 2)) fun v4 =>
joinC (α := AV × AV × AV × Unit → AH → R) (fun s5 h6 =>
pPick s5.2.1 s5.1 (.bool false) fun v8 =>
some (v8, h6)) fun j7 =>
pWant v4 true (
pFieldA v0 11 fun v9 =>
pLoad1 h1 v9 fun v10 =>
pLenS v10 fun v11 =>
pInt .gtr v11 (.int .i64 (.ofNat 0)) fun v12 =>
j7 (v12, v4, (.bool false), ()) h1) (
j7 (.undef, v4, (.bool false), ()) h1)
theorem S17_eq (c : CV) (a0 : AV) (h : AH) : enterK Try.prog NN P17 c 17 [a0] h = S17 c a0 h := by kernel_rfl
def W17 (c : CV) (l : List AV) (h : AH) : R := match l with | [a0] => S17 c a0 h | _ => none
theorem W17_ok : WOk Try.prog 17 W17 := by
  intro c l h r e
  unfold W17 at e
  split at e
  · exact ⟨P17, by rw [S17_eq]; exact e⟩
  · cases e
/- slices.stableCmpFunc[int] -/
def P19 : Pl := (.n none .z (.n none .z (.n none (.n none (.n (some [8, 7, 6, 2, 1, 0]) .z .z) .z) (.n none .z (.n none (.n (some [8, 7, 6, 2, 1, 0]) (.n none .z (.n none (.n none .z (.n none (.n none (.n (some [32, 31, 30, 29, 28, 8, 7, 6, 2, 1, 0]) .z .z) .z) (.n (some [54, 53, 52, 51, 50, 49, 35, 34, 33, 32, 31, 30, 29, 28, 9, 8, 7, 6, 2, 1, 0]) .z .z))) .z)) .z) .z)))))
def S19 (c : CV) (a0 a1 a2 : AV) (h : AH) : R :=
loopC (σ := AV × AV × AV × AV × AV × AV × Unit) NN (fun i3 s0 h1 d2 =>
pInt .leq s0.1 s0.2.2.2.2.1 fun v4 =>
pCond v4 (
pCall c (.fn 20 [] []) [s0.2.2.2.2.2.1, s0.2.1, s0.1, s0.2.2.2.1] h1 fun _ h6 =>
pInt .add s0.1 s0.2.2.1 fun v7 =>
i3 (v7, s0.1, s0.2.2.1, s0.2.2.2.1, s0.2.2.2.2.1, s0.2.2.2.2.2.1, ()) h6 d2) (
pCall c (.fn 20 [] []) [s0.2.2.2.2.2.1, s0.2.1, s0.2.2.2.2.1, s0.2.2.2.1] h1 fun _ h9 =>
loopC (σ := AV × AV × AV × AV × AV × AV × Unit) NN (fun i13 s10 h11 d12 =>
pInt .lss s10.2.2.1 s10.2.2.2.2.1 fun v14 =>
pCond v14 (
pInt .mul (.int .i64 (.ofNat 2)) s10.2.2.1 fun v15 =>
loopC (σ := AV × AV × AV × AV × AV × AV × AV × AV × AV × AV × AV × Unit) NN (fun i19 s16 h17 d18 =>
pInt .leq s16.2.2.2.2.2.1 s16.2.2.2.2.2.2.2.2.2.1 fun v20 =>
pCond v20 (
pInt .add s16.2.2.2.2.2.2.1 s16.2.2.2.2.2.2.2.1 fun v21 =>
pCall c (.fn 21 [] []) [s16.2.2.2.2.2.2.2.2.2.2.1, s16.2.2.2.2.2.2.1, v21, s16.2.2.2.2.2.1, s16.2.2.2.2.2.2.2.2.1] h17 fun _ h23 =>
pInt .mul (.int .i64 (.ofNat 2)) s16.2.2.2.2.2.2.2.1 fun v24 =>
pInt .add s16.2.2.2.2.2.1 v24 fun v25 =>
i19 (s16.1, s16.2.1, s16.2.2.1, s16.2.2.2.1, s16.2.2.2.2.1, v25, s16.2.2.2.2.2.1, s16.2.2.2.2.2.2.2.1, s16.2.2.2.2.2.2.2.2.1, s16.2.2.2.2.2.2.2.2.2.1, s16.2.2.2.2.2.2.2.2.2.2.1, ()) h23 d18) (
joinC (α := AV × AV × AV × AV × AV × AV × AV × AV × AV × AV × AV × AV × AV × AV × AV × AV × AV × AV × AV × AV × AV × Unit → AH → List Nat → R) (fun s26 h27 d28 =>
pInt .mul s26.2.2.2.2.2.2.2.2.2.2.2.2.2.2.2.2.2.1 (.int .i64 (.ofNat 2)) fun v30 =>
i13 (s26.2.2.2.2.2.2.2.2.2.2.2.2.2.2.2.1, s26.2.2.2.2.2.2.2.2.2.2.2.2.2.2.2.2.1, v30, s26.2.2.2.2.2.2.2.2.2.2.2.2.2.2.2.2.2.2.1, s26.2.2.2.2.2.2.2.2.2.2.2.2.2.2.2.2.2.2.2.1, s26.2.2.2.2.2.2.2.2.2.2.2.2.2.2.2.2.2.2.2.2.1, ()) h27 d28) fun j29 =>
pInt .add s16.2.2.2.2.2.2.1 s16.2.2.2.2.2.2.2.1 fun v31 =>
pInt .lss v31 s16.2.2.2.2.2.2.2.2.2.1 fun v32 =>
pCond v32 (
pCall c (.fn 21 [] []) [s16.2.2.2.2.2.2.2.2.2.2.1, s16.2.2.2.2.2.2.1, v31, s16.2.2.2.2.2.2.2.2.2.1, s16.2.2.2.2.2.2.2.2.1] h17 fun _ h34 =>
j29 (v32, s16.2.2.2.2.2.2.2.2.2.1, v31, v31, s16.2.2.2.2.2.2.2.1, s16.2.2.2.2.2.2.1, v20, s16.2.2.2.2.2.2.2.2.2.1, s16.2.2.2.2.2.1, s16.1, s16.2.1, s16.2.2.1, s16.2.2.2.1, s16.2.2.2.2.1, v31, s16.2.2.2.2.2.1, s16.2.2.2.2.2.2.1, s16.2.2.2.2.2.2.2.1, s16.2.2.2.2.2.2.2.2.1, s16.2.2.2.2.2.2.2.2.2.1, s16.2.2.2.2.2.2.2.2.2.2.1, ()) h34 d18) (
j29 (v32, s16.2.2.2.2.2.2.2.2.2.1, v31, v31, s16.2.2.2.2.2.2.2.1, s16.2.2.2.2.2.2.1, v20, s16.2.2.2.2.2.2.2.2.2.1, s16.2.2.2.2.2.1, s16.1, s16.2.1, s16.2.2.1, s16.2.2.2.1, s16.2.2.2.2.1, v31, s16.2.2.2.2.2.1, s16.2.2.2.2.2.2.1, s16.2.2.2.2.2.2.2.1, s16.2.2.2.2.2.2.2.2.1, s16.2.2.2.2.2.2.2.2.2.1, s16.2.2.2.2.2.2.2.2.2.2.1, ()) h17 d18))) (v15, s10.2.2.1, v14, s10.2.2.2.2.1, s10.2.2.1, v15, (.int .i64 (.ofNat 0)), s10.2.2.1, s10.2.2.2.1, s10.2.2.2.2.1, s10.2.2.2.2.2.1, ()) h11 d12) (
pLeave d12 h11 fun h35 =>
some ((.tup []), h35))) (s0.1, s0.2.1, s0.2.2.1, s0.2.2.2.1, s0.2.2.2.2.1, s0.2.2.2.2.2.1, ()) h9 d2)) ((.int .i64 (.ofNat 20)), (.int .i64 (.ofNat 0)), (.int .i64 (.ofNat 20)), a2, a1, a0, ()) h []
theorem S19_eq (c : CV) (a0 a1 a2 : AV) (h : AH) : enterK Try.prog NN P19 c 19 [a0, a1, a2] h = S19 c a0 a1 a2 h := by kernel_rfl
def W19 (c : CV) (l : List AV) (h : AH) : R := match l with | [a0, a1, a2] => S19 c a0 a1 a2 h | _ => none
theorem W19_ok : WOk Try.prog 19 W19 := by
  intro c l h r e
  unfold W19 at e
  split at e
  · exact ⟨P19, by rw [S19_eq]; exact e⟩
  · cases e
/- slices.insertionSortCmpFunc[int] -/
def P20 : Pl := (.n none .z (.n none (.n (some [8, 3, 2, 1, 0]) (.n none .z (.n none (.n none (.n none .z (.n none (.n (some [17, 14, 13, 12, 9, 8, 3, 2, 1, 0]) (.n none (.n none (.r [[33, 32, 31, 30, 29, 28, 27, 26, 25, 24, 23, 22, 21, 20, 19, 18, 17, 14, 13, 12, 9, 8, 3, 2, 1, 0]]) .z) .z) .z) .z)) .z) .z)) .z) .z))
def S20 (c : CV) (a0 a1 a2 a3 : AV) (h : AH) : R :=
pInt .add a1 (.int .i64 (.ofNat 1)) fun v0 =>
loopC (σ := AV × AV × AV × AV × AV × Unit) NN (fun i4 s1 h2 d3 =>
pInt .lss s1.1 s1.2.2.1 fun v5 =>
pCond v5 (
loopC (σ := AV × AV × AV × AV × AV × AV × AV × AV × AV × AV × Unit) NN (fun i9 s6 h7 d8 =>
pInt .gtr s6.2.2.2.2.1 s6.2.2.2.2.2.2.2.2.1 fun v10 =>
joinC (α := AV × AV × AV × AV × AV × AV × AV × AV × AV × AV × AV × AV × AV × AV × AV × AV × AV × AV × AV × AV × AV × AV × AV × AV × AV × AV × Unit → AH → R) (fun s11 h12 =>
pPick s11.2.2.2.2.2.2.2.2.2.2.2.2.1 s11.1 (.bool false) fun v14 =>
pCond v14 (
pInt .sub s11.2.2.2.2.2.2.2.2.2.2.2.2.2.2.2.2.2.2.2.2.1 (.int .i64 (.ofNat 1)) fun v15 =>
pInt .sub s11.2.2.2.2.2.2.2.2.2.2.2.2.2.2.2.2.2.2.2.2.1 (.int .i64 (.ofNat 1)) fun v16 =>
pIdxS s11.2.2.2.2.2.2.2.2.2.2.2.2.2.2.2.2.2.2.2.2.2.2.2.2.2.1 v16 1 fun v17 =>
pLoad1 h12 v17 fun v18 =>
pIdxS s11.2.2.2.2.2.2.2.2.2.2.2.2.2.2.2.2.2.2.2.2.2.2.2.2.2.1 s11.2.2.2.2.2.2.2.2.2.2.2.2.2.2.2.2.2.2.2.2.1 1 fun v19 =>
pLoad1 h12 v19 fun v20 =>
pIdxS s11.2.2.2.2.2.2.2.2.2.2.2.2.2.2.2.2.2.2.2.2.2.2.2.2.2.1 s11.2.2.2.2.2.2.2.2.2.2.2.2.2.2.2.2.2.2.2.2.1 1 fun v21 =>
pStore h12 v21 v18 1 fun h22 =>
pIdxS s11.2.2.2.2.2.2.2.2.2.2.2.2.2.2.2.2.2.2.2.2.2.2.2.2.2.1 v15 1 fun v23 =>
pStore h22 v23 v20 1 fun h24 =>
pInt .sub s11.2.2.2.2.2.2.2.2.2.2.2.2.2.2.2.2.2.2.2.2.1 (.int .i64 (.ofNat 1)) fun v25 =>
i9 (s11.2.2.2.2.2.2.2.2.2.2.2.2.2.2.2.2.1, s11.2.2.2.2.2.2.2.2.2.2.2.2.2.2.2.2.2.1, s11.2.2.2.2.2.2.2.2.2.2.2.2.2.2.2.2.2.2.1, s11.2.2.2.2.2.2.2.2.2.2.2.2.2.2.2.2.2.2.2.1, v25, s11.2.2.2.2.2.2.2.2.2.2.2.2.2.2.2.2.2.2.2.2.2.1, s11.2.2.2.2.2.2.2.2.2.2.2.2.2.2.2.2.2.2.2.2.2.2.1, s11.2.2.2.2.2.2.2.2.2.2.2.2.2.2.2.2.2.2.2.2.2.2.2.1, s11.2.2.2.2.2.2.2.2.2.2.2.2.2.2.2.2.2.2.2.2.2.2.2.2.1, s11.2.2.2.2.2.2.2.2.2.2.2.2.2.2.2.2.2.2.2.2.2.2.2.2.2.1, ()) h24 d8) (
pInt .add s11.2.2.2.2.2.2.2.2.2.2.2.2.2.2.2.2.2.2.2.2.2.1 (.int .i64 (.ofNat 1)) fun v26 =>
i4 (v26, s11.2.2.2.2.2.2.2.2.2.2.2.2.2.2.2.2.2.2.2.2.2.2.1, s11.2.2.2.2.2.2.2.2.2.2.2.2.2.2.2.2.2.2.2.2.2.2.2.1, s11.2.2.2.2.2.2.2.2.2.2.2.2.2.2.2.2.2.2.2.2.2.2.2.2.1, s11.2.2.2.2.2.2.2.2.2.2.2.2.2.2.2.2.2.2.2.2.2.2.2.2.2.1, ()) h12 d8)) fun j13 =>
pWant v10 true (
pIdxS s6.2.2.2.2.2.2.2.2.2.1 s6.2.2.2.2.1 1 fun v27 =>
pLoad1 h7 v27 fun v28 =>
pInt .sub s6.2.2.2.2.1 (.int .i64 (.ofNat 1)) fun v29 =>
pIdxS s6.2.2.2.2.2.2.2.2.2.1 v29 1 fun v30 =>
pLoad1 h7 v30 fun v31 =>
pCall c s6.2.2.2.2.2.2.1 [v28, v31] h7 fun v32 h33 =>
pInt .lss v32 (.int .i64 (.ofNat 0)) fun v34 =>
j13 (v34, v32, v31, v30, v29, s6.2.2.2.2.1, s6.2.2.2.2.2.2.2.2.2.1, v28, v27, s6.2.2.2.2.1, s6.2.2.2.2.2.2.2.2.2.1, s6.2.2.2.2.2.2.1, v10, v10, s6.2.2.2.2.2.2.2.2.1, s6.2.2.2.2.1, s6.1, s6.2.1, s6.2.2.1, s6.2.2.2.1, s6.2.2.2.2.1, s6.2.2.2.2.2.1, s6.2.2.2.2.2.2.1, s6.2.2.2.2.2.2.2.1, s6.2.2.2.2.2.2.2.2.1, s6.2.2.2.2.2.2.2.2.2.1, ()) h33) (
j13 (.undef, .undef, .undef, .undef, .undef, .undef, .undef, .undef, .undef, .undef, .undef, .undef, v10, v10, s6.2.2.2.2.2.2.2.2.1, s6.2.2.2.2.1, s6.1, s6.2.1, s6.2.2.1, s6.2.2.2.1, s6.2.2.2.2.1, s6.2.2.2.2.2.1, s6.2.2.2.2.2.2.1, s6.2.2.2.2.2.2.2.1, s6.2.2.2.2.2.2.2.2.1, s6.2.2.2.2.2.2.2.2.2.1, ()) h7)) (s1.1, v5, s1.2.2.1, s1.1, s1.1, s1.1, s1.2.1, s1.2.2.1, s1.2.2.2.1, s1.2.2.2.2.1, ()) h2 d3) (
pLeave d3 h2 fun h35 =>
some ((.tup []), h35))) (v0, a3, a2, a1, a0, ()) h []
theorem S20_eq (c : CV) (a0 a1 a2 a3 : AV) (h : AH) : enterK Try.prog NN P20 c 20 [a0, a1, a2, a3] h = S20 c a0 a1 a2 a3 h := by kernel_rfl
def W20 (c : CV) (l : List AV) (h : AH) : R := match l with | [a0, a1, a2, a3] => S20 c a0 a1 a2 a3 h | _ => none
theorem W20_ok : WOk Try.prog 20 W20 := by
  intro c l h r e
  unfold W20 at e
  split at e
  · exact ⟨P20, by rw [S20_eq]; exact e⟩
  · cases e
/- slices.symMergeCmpFunc[int] -/
def P21 : Pl := (.n none (.n none .z (.n none (.n none .z (.n none .z (.n none (.n none (.n (some [11, 10, 4, 3, 2, 1, 0]) (.n none .z (.n (some [50, 49, 48, 47, 46, 45, 44, 43, 42, 41, 40, 39, 38, 37, 36, 35, 34, 33, 32, 31, 12, 11, 10, 4, 3, 2, 1, 0]) .z .z)) .z) .z) (.n none (.n none .z (.n none (.n (some [13, 10, 4, 3, 2, 1, 0]) .z .z) .z)) .z)))) .z)) (.n none (.n none .z (.n none (.n none .z (.n none .z (.n none (.n none (.n (some [15, 14, 4, 3, 2, 1, 0]) (.n none .z (.n (some [103, 102, 101, 100, 99, 98, 97, 96, 95, 94, 93, 92, 91, 90, 89, 88, 87, 86, 85, 84, 83, 16, 15, 14, 4, 3, 2, 1, 0]) .z .z)) .z) .z) (.n none (.n none .z (.n none (.n (some [17, 14, 4, 3, 2, 1, 0]) .z .z) .z)) .z)))) .z)) (.n none .z (.n none .z (.n none .z (.n (some [21, 20, 19, 18, 4, 3, 2, 1, 0]) .z (.n none .z (.n none (.n none (.n (some [22, 21, 20, 19, 18, 4, 3, 2, 1, 0]) (.n none .z (.n (some [171, 170, 169, 168, 167, 166, 165, 164, 163, 162, 161, 160, 159, 158, 157, 156, 155, 154, 153, 152, 151, 150, 149, 23, 22, 21, 20, 19, 18, 4, 3, 2, 1, 0]) .z .z)) .z) .z) (.n none .z (.n (some [24, 20, 18, 4, 3, 1, 0]) (.n none (.r [[184, 181, 24, 20, 18, 4, 3, 2, 1, 0]]) .z) (.n (some [24, 18, 4, 3, 0]) (.n none (.r [[198, 195, 24, 20, 18, 4, 3, 1, 0]]) .z) (.n none (.r [[212, 209, 24, 18, 4, 3, 0]]) .z))))))))))))
def S21 (c : CV) (a0 a1 a2 a3 a4 : AV) (h : AH) : R :=
pInt .sub a2 a1 fun v0 =>
pInt .eql v0 (.int .i64 (.ofNat 1)) fun v1 =>
pCond v1 (
loopC (σ := AV × AV × AV × AV × AV × AV × AV × Unit) NN (fun i5 s2 h3 d4 =>
pInt .lss s2.2.1 s2.1 fun v6 =>
pCond v6 (
joinC (α := AV × AV × AV × AV × AV × AV × AV × AV × AV × AV × AV × AV × AV × AV × AV × AV × AV × AV × AV × AV × AV × AV × AV × AV × AV × AV × AV × AV × Unit → AH → List Nat → R) (fun s7 h8 d9 =>
i5 (s7.2.2.2.2.2.2.2.2.2.2.2.2.2.2.2.2.2.2.2.2.2.1, s7.2.2.2.2.2.2.2.2.2.2.2.2.2.2.2.2.2.2.2.2.2.2.1, s7.2.2.2.2.2.2.2.2.2.2.2.2.2.2.2.2.2.2.2.2.2.2.2.1, s7.2.2.2.2.2.2.2.2.2.2.2.2.2.2.2.2.2.2.2.2.2.2.2.2.1, s7.2.2.2.2.2.2.2.2.2.2.2.2.2.2.2.2.2.2.2.2.2.2.2.2.2.1, s7.2.2.2.2.2.2.2.2.2.2.2.2.2.2.2.2.2.2.2.2.2.2.2.2.2.2.1, s7.2.2.2.2.2.2.2.2.2.2.2.2.2.2.2.2.2.2.2.2.2.2.2.2.2.2.2.1, ()) h8 d9) fun j10 =>
pInt .add s2.2.1 s2.1 fun v11 =>
pConvI .u64 v11 fun v12 =>
pShift .shr v12 (.int .u64 (.ofNat 1)) fun v13 =>
pConvI .i64 v13 fun v14 =>
pIdxS s2.2.2.2.2.2.2.1 v14 1 fun v15 =>
pLoad1 h3 v15 fun v16 =>
pIdxS s2.2.2.2.2.2.2.1 s2.2.2.2.2.2.1 1 fun v17 =>
pLoad1 h3 v17 fun v18 =>
pCall c s2.2.2.1 [v16, v18] h3 fun v19 h20 =>
pInt .lss v19 (.int .i64 (.ofNat 0)) fun v21 =>
pCond v21 (
pInt .add v14 (.int .i64 (.ofNat 1)) fun v22 =>
j10 (v21, v19, v18, v17, s2.2.2.2.2.2.1, s2.2.2.2.2.2.2.1, v16, v15, v14, s2.2.2.2.2.2.2.1, s2.2.2.1, v14, v13, v12, v11, s2.1, s2.2.1, v6, s2.1, s2.2.1, v14, s2.1, v22, s2.2.2.1, s2.2.2.2.1, s2.2.2.2.2.1, s2.2.2.2.2.2.1, s2.2.2.2.2.2.2.1, ()) h20 d4) (
j10 (v21, v19, v18, v17, s2.2.2.2.2.2.1, s2.2.2.2.2.2.2.1, v16, v15, v14, s2.2.2.2.2.2.2.1, s2.2.2.1, v14, v13, v12, v11, s2.1, s2.2.1, v6, s2.1, s2.2.1, v14, v14, s2.2.1, s2.2.2.1, s2.2.2.2.1, s2.2.2.2.2.1, s2.2.2.2.2.2.1, s2.2.2.2.2.2.2.1, ()) h20 d4)) (
loopC (σ := AV × AV × AV × AV × AV × AV × AV × Unit) NN (fun i26 s23 h24 d25 =>
pInt .sub s23.2.1 (.int .i64 (.ofNat 1)) fun v27 =>
pInt .lss s23.1 v27 fun v28 =>
pCond v28 (
pInt .add s23.1 (.int .i64 (.ofNat 1)) fun v29 =>
pInt .add s23.1 (.int .i64 (.ofNat 1)) fun v30 =>
pIdxS s23.2.2.2.2.2.2.1 v30 1 fun v31 =>
pLoad1 h24 v31 fun v32 =>
pIdxS s23.2.2.2.2.2.2.1 s23.1 1 fun v33 =>
pLoad1 h24 v33 fun v34 =>
pIdxS s23.2.2.2.2.2.2.1 s23.1 1 fun v35 =>
pStore h24 v35 v32 1 fun h36 =>
pIdxS s23.2.2.2.2.2.2.1 v29 1 fun v37 =>
pStore h36 v37 v34 1 fun h38 =>
pInt .add s23.1 (.int .i64 (.ofNat 1)) fun v39 =>
i26 (v39, s23.2.1, s23.2.2.1, s23.2.2.2.1, s23.2.2.2.2.1, s23.2.2.2.2.2.1, s23.2.2.2.2.2.2.1, ()) h38 d25) (
pLeave d25 h24 fun h40 =>
some ((.tup []), h40))) (s2.2.2.2.2.2.1, s2.2.1, s2.2.2.1, s2.2.2.2.1, s2.2.2.2.2.1, s2.2.2.2.2.2.1, s2.2.2.2.2.2.2.1, ()) h3 d4)) (a3, a2, a4, a3, a2, a1, a0, ()) h []) (
pInt .sub a3 a2 fun v41 =>
pInt .eql v41 (.int .i64 (.ofNat 1)) fun v42 =>
pCond v42 (
loopC (σ := AV × AV × AV × AV × AV × AV × AV × Unit) NN (fun i46 s43 h44 d45 =>
pInt .lss s43.2.1 s43.1 fun v47 =>
pCond v47 (
joinC (α := AV × AV × AV × AV × AV × AV × AV × AV × AV × AV × AV × AV × AV × AV × AV × AV × AV × AV × AV × AV × AV × AV × AV × AV × AV × AV × AV × AV × AV × Unit → AH → List Nat → R) (fun s48 h49 d50 =>
i46 (s48.2.2.2.2.2.2.2.2.2.2.2.2.2.2.2.2.2.2.2.2.2.2.1, s48.2.2.2.2.2.2.2.2.2.2.2.2.2.2.2.2.2.2.2.2.2.2.2.1, s48.2.2.2.2.2.2.2.2.2.2.2.2.2.2.2.2.2.2.2.2.2.2.2.2.1, s48.2.2.2.2.2.2.2.2.2.2.2.2.2.2.2.2.2.2.2.2.2.2.2.2.2.1, s48.2.2.2.2.2.2.2.2.2.2.2.2.2.2.2.2.2.2.2.2.2.2.2.2.2.2.1, s48.2.2.2.2.2.2.2.2.2.2.2.2.2.2.2.2.2.2.2.2.2.2.2.2.2.2.2.1, s48.2.2.2.2.2.2.2.2.2.2.2.2.2.2.2.2.2.2.2.2.2.2.2.2.2.2.2.2.1, ()) h49 d50) fun j51 =>
pInt .add s43.2.1 s43.1 fun v52 =>
pConvI .u64 v52 fun v53 =>
pShift .shr v53 (.int .u64 (.ofNat 1)) fun v54 =>
pConvI .i64 v54 fun v55 =>
pIdxS s43.2.2.2.2.2.2.1 s43.2.2.2.2.1 1 fun v56 =>
pLoad1 h44 v56 fun v57 =>
pIdxS s43.2.2.2.2.2.2.1 v55 1 fun v58 =>
pLoad1 h44 v58 fun v59 =>
pCall c s43.2.2.1 [v57, v59] h44 fun v60 h61 =>
pInt .lss v60 (.int .i64 (.ofNat 0)) fun v62 =>
pUn .not v62 fun v63 =>
pCond v63 (
pInt .add v55 (.int .i64 (.ofNat 1)) fun v64 =>
j51 (v63, v62, v60, v59, v58, v55, s43.2.2.2.2.2.2.1, v57, v56, s43.2.2.2.2.1, s43.2.2.2.2.2.2.1, s43.2.2.1, v55, v54, v53, v52, s43.1, s43.2.1, v47, s43.1, s43.2.1, v55, s43.1, v64, s43.2.2.1, s43.2.2.2.1, s43.2.2.2.2.1, s43.2.2.2.2.2.1, s43.2.2.2.2.2.2.1, ()) h61 d45) (
j51 (v63, v62, v60, v59, v58, v55, s43.2.2.2.2.2.2.1, v57, v56, s43.2.2.2.2.1, s43.2.2.2.2.2.2.1, s43.2.2.1, v55, v54, v53, v52, s43.1, s43.2.1, v47, s43.1, s43.2.1, v55, v55, s43.2.1, s43.2.2.1, s43.2.2.2.1, s43.2.2.2.2.1, s43.2.2.2.2.2.1, s43.2.2.2.2.2.2.1, ()) h61 d45)) (
loopC (σ := AV × AV × AV × AV × AV × AV × AV × Unit) NN (fun i68 s65 h66 d67 =>
pInt .gtr s65.1 s65.2.1 fun v69 =>
pCond v69 (
pInt .sub s65.1 (.int .i64 (.ofNat 1)) fun v70 =>
pInt .sub s65.1 (.int .i64 (.ofNat 1)) fun v71 =>
pIdxS s65.2.2.2.2.2.2.1 v71 1 fun v72 =>
pLoad1 h66 v72 fun v73 =>
pIdxS s65.2.2.2.2.2.2.1 s65.1 1 fun v74 =>
pLoad1 h66 v74 fun v75 =>
pIdxS s65.2.2.2.2.2.2.1 s65.1 1 fun v76 =>
pStore h66 v76 v73 1 fun h77 =>
pIdxS s65.2.2.2.2.2.2.1 v70 1 fun v78 =>
pStore h77 v78 v75 1 fun h79 =>
pInt .sub s65.1 (.int .i64 (.ofNat 1)) fun v80 =>
i68 (v80, s65.2.1, s65.2.2.1, s65.2.2.2.1, s65.2.2.2.2.1, s65.2.2.2.2.2.1, s65.2.2.2.2.2.2.1, ()) h79 d67) (
pLeave d67 h66 fun h81 =>
some ((.tup []), h81))) (s43.2.2.2.2.1, s43.2.1, s43.2.2.1, s43.2.2.2.1, s43.2.2.2.2.1, s43.2.2.2.2.2.1, s43.2.2.2.2.2.2.1, ()) h44 d45)) (a2, a1, a4, a3, a2, a1, a0, ()) h []) (
pInt .add a1 a3 fun v82 =>
pConvI .u64 v82 fun v83 =>
pShift .shr v83 (.int .u64 (.ofNat 1)) fun v84 =>
pConvI .i64 v84 fun v85 =>
pInt .add v85 a2 fun v86 =>
joinC (α := AV × AV × AV × AV × AV × AV × AV × AV × AV × Unit → AH → List Nat → R) (fun s87 h88 d89 =>
pInt .sub s87.2.2.1 (.int .i64 (.ofNat 1)) fun v91 =>
loopC (σ := AV × AV × AV × AV × AV × AV × AV × AV × AV × AV × Unit) NN (fun i95 s92 h93 d94 =>
pInt .lss s92.2.2.1 s92.2.1 fun v96 =>
pCond v96 (
joinC (α := AV × AV × AV × AV × AV × AV × AV × AV × AV × AV × AV × AV × AV × AV × AV × AV × AV × AV × AV × AV × AV × AV × AV × AV × AV × AV × AV × AV × AV × AV × AV × AV × AV × AV × Unit → AH → List Nat → R) (fun s97 h98 d99 =>
i95 (s97.2.2.2.2.2.2.2.2.2.2.2.2.2.2.2.2.2.2.2.2.2.2.2.2.1, s97.2.2.2.2.2.2.2.2.2.2.2.2.2.2.2.2.2.2.2.2.2.2.2.2.2.1, s97.2.2.2.2.2.2.2.2.2.2.2.2.2.2.2.2.2.2.2.2.2.2.2.2.2.2.1, s97.2.2.2.2.2.2.2.2.2.2.2.2.2.2.2.2.2.2.2.2.2.2.2.2.2.2.2.1, s97.2.2.2.2.2.2.2.2.2.2.2.2.2.2.2.2.2.2.2.2.2.2.2.2.2.2.2.2.1, s97.2.2.2.2.2.2.2.2.2.2.2.2.2.2.2.2.2.2.2.2.2.2.2.2.2.2.2.2.2.1, s97.2.2.2.2.2.2.2.2.2.2.2.2.2.2.2.2.2.2.2.2.2.2.2.2.2.2.2.2.2.2.1, s97.2.2.2.2.2.2.2.2.2.2.2.2.2.2.2.2.2.2.2.2.2.2.2.2.2.2.2.2.2.2.2.1, s97.2.2.2.2.2.2.2.2.2.2.2.2.2.2.2.2.2.2.2.2.2.2.2.2.2.2.2.2.2.2.2.2.1, s97.2.2.2.2.2.2.2.2.2.2.2.2.2.2.2.2.2.2.2.2.2.2.2.2.2.2.2.2.2.2.2.2.2.1, ()) h98 d99) fun j100 =>
pInt .add s92.2.2.1 s92.2.1 fun v101 =>
pConvI .u64 v101 fun v102 =>
pShift .shr v102 (.int .u64 (.ofNat 1)) fun v103 =>
pConvI .i64 v103 fun v104 =>
pInt .sub s92.1 v104 fun v105 =>
pIdxS s92.2.2.2.2.2.2.2.2.2.1 v105 1 fun v106 =>
pLoad1 h93 v106 fun v107 =>
pIdxS s92.2.2.2.2.2.2.2.2.2.1 v104 1 fun v108 =>
pLoad1 h93 v108 fun v109 =>
pCall c s92.2.2.2.2.2.1 [v107, v109] h93 fun v110 h111 =>
pInt .lss v110 (.int .i64 (.ofNat 0)) fun v112 =>
pUn .not v112 fun v113 =>
pCond v113 (
pInt .add v104 (.int .i64 (.ofNat 1)) fun v114 =>
j100 (v113, v112, v110, v109, v108, v104, s92.2.2.2.2.2.2.2.2.2.1, v107, v106, v105, v104, s92.1, s92.2.2.2.2.2.2.2.2.2.1, s92.2.2.2.2.2.1, v104, v103, v102, v101, s92.2.1, s92.2.2.1, v96, s92.2.1, s92.2.2.1, v104, s92.1, s92.2.1, v114, s92.2.2.2.1, s92.2.2.2.2.1, s92.2.2.2.2.2.1, s92.2.2.2.2.2.2.1, s92.2.2.2.2.2.2.2.1, s92.2.2.2.2.2.2.2.2.1, s92.2.2.2.2.2.2.2.2.2.1, ()) h111 d94) (
j100 (v113, v112, v110, v109, v108, v104, s92.2.2.2.2.2.2.2.2.2.1, v107, v106, v105, v104, s92.1, s92.2.2.2.2.2.2.2.2.2.1, s92.2.2.2.2.2.1, v104, v103, v102, v101, s92.2.1, s92.2.2.1, v96, s92.2.1, s92.2.2.1, v104, s92.1, v104, s92.2.2.1, s92.2.2.2.1, s92.2.2.2.2.1, s92.2.2.2.2.2.1, s92.2.2.2.2.2.2.1, s92.2.2.2.2.2.2.2.1, s92.2.2.2.2.2.2.2.2.1, s92.2.2.2.2.2.2.2.2.2.1, ()) h111 d94)) (
pInt .sub s92.2.2.2.1 s92.2.2.1 fun v115 =>
joinC (α := AV × AV × AV × AV × AV × AV × AV × Unit → AH → List Nat → R) (fun s116 h117 d118 =>
joinC (α := AV × AV × AV × AV × AV × Unit → AH → List Nat → R) (fun s120 h121 d122 =>
pInt .lss s120.2.1 s120.1 fun v124 =>
joinC (α := AV × AV × AV × AV × AV × AV × AV × Unit → AH → R) (fun s125 h126 =>
pPick s125.2.1 s125.1 (.bool false) fun v128 =>
pCond v128 (
pCall c (.fn 21 [] []) [s125.2.2.2.2.2.2.1, s125.2.2.2.1, s125.2.2.1, s125.2.2.2.2.2.1, s125.2.2.2.2.1] h126 fun _ h130 =>
pLeave d122 h130 fun h131 =>
some ((.tup []), h131)) (
pLeave d122 h126 fun h132 =>
some ((.tup []), h132))) fun j127 =>
pWant v124 true (
pInt .lss s120.1 s120.2.2.2.1 fun v133 =>
j127 (v133, v124, s120.1, s120.2.1, s120.2.2.1, s120.2.2.2.1, s120.2.2.2.2.1, ()) h121) (
j127 (.undef, v124, s120.1, s120.2.1, s120.2.2.1, s120.2.2.2.1, s120.2.2.2.2.1, ()) h121)) fun j123 =>
pInt .lss s116.2.2.2.2.2.1 s116.2.1 fun v134 =>
joinC (α := AV × AV × AV × AV × AV × AV × AV × AV × AV × Unit → AH → R) (fun s135 h136 =>
pPick s135.2.1 s135.1 (.bool false) fun v138 =>
pCond v138 (
pCall c (.fn 21 [] []) [s135.2.2.2.2.2.2.2.2.1, s135.2.2.2.2.2.2.2.1, s135.2.2.2.1, s135.2.2.2.2.1, s135.2.2.2.2.2.1] h136 fun _ h140 =>
j123 (s135.2.2.1, s135.2.2.2.2.1, s135.2.2.2.2.2.1, s135.2.2.2.2.2.2.1, s135.2.2.2.2.2.2.2.2.1, ()) h140 d118) (
j123 (s135.2.2.1, s135.2.2.2.2.1, s135.2.2.2.2.2.1, s135.2.2.2.2.2.2.1, s135.2.2.2.2.2.2.2.2.1, ()) h136 d118)) fun j137 =>
pWant v134 true (
pInt .lss s116.2.1 s116.2.2.1 fun v141 =>
j137 (v141, v134, s116.1, s116.2.1, s116.2.2.1, s116.2.2.2.1, s116.2.2.2.2.1, s116.2.2.2.2.2.1, s116.2.2.2.2.2.2.1, ()) h117) (
j137 (.undef, v134, s116.1, s116.2.1, s116.2.2.1, s116.2.2.2.1, s116.2.2.2.2.1, s116.2.2.2.2.2.1, s116.2.2.2.2.2.2.1, ()) h117)) fun j119 =>
pInt .lss s92.2.2.1 s92.2.2.2.2.2.2.2.1 fun v142 =>
joinC (α := AV × AV × AV × AV × AV × AV × AV × AV × AV × AV × Unit → AH → R) (fun s143 h144 =>
pPick s143.2.1 s143.1 (.bool false) fun v146 =>
pCond v146 (
pCall c (.fn 22 [] []) [s143.2.2.2.2.2.2.2.2.2.1, s143.2.2.2.1, s143.2.2.2.2.2.2.2.1, s143.2.2.1, s143.2.2.2.2.2.1] h144 fun _ h148 =>
j119 (s143.2.2.1, s143.2.2.2.1, s143.2.2.2.2.1, s143.2.2.2.2.2.1, s143.2.2.2.2.2.2.1, s143.2.2.2.2.2.2.2.2.1, s143.2.2.2.2.2.2.2.2.2.1, ()) h148 d94) (
j119 (s143.2.2.1, s143.2.2.2.1, s143.2.2.2.2.1, s143.2.2.2.2.2.1, s143.2.2.2.2.2.2.1, s143.2.2.2.2.2.2.2.2.1, s143.2.2.2.2.2.2.2.2.2.1, ()) h144 d94)) fun j145 =>
pWant v142 true (
pInt .lss s92.2.2.2.2.2.2.2.1 v115 fun v149 =>
j145 (v149, v142, v115, s92.2.2.1, s92.2.2.2.2.1, s92.2.2.2.2.2.1, s92.2.2.2.2.2.2.1, s92.2.2.2.2.2.2.2.1, s92.2.2.2.2.2.2.2.2.1, s92.2.2.2.2.2.2.2.2.2.1, ()) h93) (
j145 (.undef, v142, v115, s92.2.2.1, s92.2.2.2.2.1, s92.2.2.2.2.2.1, s92.2.2.2.2.2.2.1, s92.2.2.2.2.2.2.2.1, s92.2.2.2.2.2.2.2.2.1, s92.2.2.2.2.2.2.2.2.2.1, ()) h93))) (v91, s87.1, s87.2.1, s87.2.2.1, s87.2.2.2.1, s87.2.2.2.2.1, s87.2.2.2.2.2.1, s87.2.2.2.2.2.2.1, s87.2.2.2.2.2.2.2.1, s87.2.2.2.2.2.2.2.2.1, ()) h88 d89) fun j90 =>
pInt .gtr a2 v85 fun v150 =>
pCond v150 (
pInt .sub v86 a3 fun v151 =>
j90 (v85, v151, v86, v85, a4, a3, a2, a1, a0, ()) h []) (
j90 (a2, a1, v86, v85, a4, a3, a2, a1, a0, ()) h [])))
theorem S21_eq (c : CV) (a0 a1 a2 a3 a4 : AV) (h : AH) : enterK Try.prog NN P21 c 21 [a0, a1, a2, a3, a4] h = S21 c a0 a1 a2 a3 a4 h := by kernel_rfl
def W21 (c : CV) (l : List AV) (h : AH) : R := match l with | [a0, a1, a2, a3, a4] => S21 c a0 a1 a2 a3 a4 h | _ => none
theorem W21_ok : WOk Try.prog 21 W21 := by
  intro c l h r e
  unfold W21 at e
  split at e
  · exact ⟨P21, by rw [S21_eq]; exact e⟩
  · cases e
/- slices.rotateCmpFunc[int] -/
def P22 : Pl := (.n none .z (.n none .z (.n none (.n none (.n (some [11, 10, 4, 2, 0]) (.n none .z (.n (some [23, 22, 21, 20, 19, 18, 11, 10, 4, 2, 0]) .z .z)) .z) .z) .z)))
def S22 (c : CV) (a0 a1 a2 a3 a4 : AV) (h : AH) : R :=
pInt .sub a2 a1 fun v0 =>
pInt .sub a3 a2 fun v1 =>
loopC (σ := AV × AV × AV × AV × AV × Unit) NN (fun i5 s2 h3 d4 =>
pInt .neq s2.2.1 s2.1 fun v6 =>
pCond v6 (
joinC (α := AV × AV × AV × AV × AV × AV × AV × AV × AV × AV × AV × Unit → AH → List Nat → R) (fun s7 h8 d9 =>
i5 (s7.2.2.2.2.2.2.1, s7.2.2.2.2.2.2.2.1, s7.2.2.2.2.2.2.2.2.1, s7.2.2.2.2.2.2.2.2.2.1, s7.2.2.2.2.2.2.2.2.2.2.1, ()) h8 d9) fun j10 =>
pInt .gtr s2.2.1 s2.1 fun v11 =>
pCond v11 (
pInt .sub s2.2.2.2.1 s2.2.1 fun v12 =>
pCall c (.fn 23 [] []) [s2.2.2.2.2.1, v12, s2.2.2.2.1, s2.1, s2.2.2.1] h3 fun _ h14 =>
pInt .sub s2.2.1 s2.1 fun v15 =>
j10 (v11, s2.1, s2.2.1, v6, s2.1, s2.2.1, s2.1, v15, s2.2.2.1, s2.2.2.2.1, s2.2.2.2.2.1, ()) h14 d4) (
pInt .sub s2.2.2.2.1 s2.2.1 fun v16 =>
pInt .add s2.2.2.2.1 s2.1 fun v17 =>
pInt .sub v17 s2.2.1 fun v18 =>
pCall c (.fn 23 [] []) [s2.2.2.2.2.1, v16, v18, s2.2.1, s2.2.2.1] h3 fun _ h20 =>
pInt .sub s2.1 s2.2.1 fun v21 =>
j10 (v11, s2.1, s2.2.1, v6, s2.1, s2.2.1, v21, s2.2.1, s2.2.2.1, s2.2.2.2.1, s2.2.2.2.2.1, ()) h20 d4)) (
pInt .sub s2.2.2.2.1 s2.2.1 fun v22 =>
pCall c (.fn 23 [] []) [s2.2.2.2.2.1, v22, s2.2.2.2.1, s2.2.1, s2.2.2.1] h3 fun _ h24 =>
pLeave d4 h24 fun h25 =>
some ((.tup []), h25))) (v1, v0, a4, a2, a0, ()) h []
theorem S22_eq (c : CV) (a0 a1 a2 a3 a4 : AV) (h : AH) : enterK Try.prog NN P22 c 22 [a0, a1, a2, a3, a4] h = S22 c a0 a1 a2 a3 a4 h := by kernel_rfl
def W22 (c : CV) (l : List AV) (h : AH) : R := match l with | [a0, a1, a2, a3, a4] => S22 c a0 a1 a2 a3 a4 h | _ => none
theorem W22_ok : WOk Try.prog 22 W22 := by
  intro c l h r e
  unfold W22 at e
  split at e
  · exact ⟨P22, by rw [S22_eq]; exact e⟩
  · cases e
/- slices.swapRangeCmpFunc[int] -/
def P23 : Pl := (.n none .z (.n none (.n (some [10, 3, 2, 1, 0]) .z .z) .z))
def S23 (_ : CV) (a0 a1 a2 a3 _ : AV) (h : AH) : R :=
loopC (σ := AV × AV × AV × AV × AV × Unit) NN (fun i3 s0 h1 d2 =>
pInt .lss s0.1 s0.2.1 fun v4 =>
pCond v4 (
pInt .add s0.2.2.2.1 s0.1 fun v5 =>
pInt .add s0.2.2.1 s0.1 fun v6 =>
pInt .add s0.2.2.1 s0.1 fun v7 =>
pIdxS s0.2.2.2.2.1 v7 1 fun v8 =>
pLoad1 h1 v8 fun v9 =>
pInt .add s0.2.2.2.1 s0.1 fun v10 =>
pIdxS s0.2.2.2.2.1 v10 1 fun v11 =>
pLoad1 h1 v11 fun v12 =>
pIdxS s0.2.2.2.2.1 v5 1 fun v13 =>
pStore h1 v13 v9 1 fun h14 =>
pIdxS s0.2.2.2.2.1 v6 1 fun v15 =>
pStore h14 v15 v12 1 fun h16 =>
pInt .add s0.1 (.int .i64 (.ofNat 1)) fun v17 =>
i3 (v17, s0.2.1, s0.2.2.1, s0.2.2.2.1, s0.2.2.2.2.1, ()) h16 d2) (
pLeave d2 h1 fun h18 =>
some ((.tup []), h18))) ((.int .i64 (.ofNat 0)), a3, a2, a1, a0, ()) h []
theorem S23_eq (c : CV) (a0 a1 a2 a3 a4 : AV) (h : AH) : enterK Try.prog NN P23 c 23 [a0, a1, a2, a3, a4] h = S23 c a0 a1 a2 a3 a4 h := by kernel_rfl
def W23 (c : CV) (l : List AV) (h : AH) : R := match l with | [a0, a1, a2, a3, a4] => S23 c a0 a1 a2 a3 a4 h | _ => none
theorem W23_ok : WOk Try.prog 23 W23 := by
  intro c l h r e
  unfold W23 at e
  split at e
  · exact ⟨P23, by rw [S23_eq]; exact e⟩
  · cases e
end Go.Proofs.Ytlmfnmppcdijfaa
