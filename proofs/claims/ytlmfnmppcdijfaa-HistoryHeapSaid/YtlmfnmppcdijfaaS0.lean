/- Printed by a program of mine: the bodies of the program's functions aa terms of the primitives of the abstract executor, each shown equal by the kernel. -/
import Derived.Test.YtlmfnmppcdijfaaProg
import Derived.Test.YtlmfnmppcdijfaaAe1
import Derived.KernelRfl
namespace Go.Proofs.Ytlmfnmppcdijfaa
open Go Go.Ae
set_option maxRecDepth 100000
noncomputable section
/- quietus/quietuslaw29.HistoryRuns -/
def P3 : Pl := (.n none .z (.n none .z (.n none .z (.n none .z (.n none (.r [[29, 22, 3, 2, 1], [33, 31, 3, 2, 1], [38, 35, 3, 2, 1], [44, 40, 3, 2, 1], [49, 46, 3, 1], [55, 51]]) .z)))))
def S3 (c : CV) (h : AH) : R :=
pBuild [(.int .i64 (.ofNat 0)), (.int .u64 (.ofNat 0))] [(0, 1, (.int .i64 (.ofNat 7))), (1, 1, (.int .u64 (.ofNat 9)))] fun v0 =>
pBuildS h 24 [(.int .i64 (.ofNat 0)), (.int .u64 (.ofNat 0))] 1 [(0, 2, v0)] fun v1 h2 =>
pBuild [(.int .i64 (.ofNat 0)), (.int .i64 (.ofNat 0)), (.int .i64 (.ofNat 0)), (.bool false), (.int .i64 (.ofNat 0)), (.int .i64 (.ofNat 0)), (.int .u64 (.ofNat 0)), (.int .u64 (.ofNat 0)), (.int .i64 (.ofNat 0)), (.int .i64 (.ofNat 0)), .nils, .nils, .nils, (.str [])] [(4, 1, (.int .i64 (.ofNat 2))), (7, 1, (.int .u64 (.ofNat 5))), (8, 1, (.int .i64 (.ofNat 2))), (11, 1, v1)] fun v3 =>
pBuild [(.int .i64 (.ofNat 0)), (.int .u64 (.ofNat 0))] [(0, 1, (.int .i64 (.ofNat 7))), (1, 1, (.int .u64 (.ofNat 9)))] fun v4 =>
pBuildS h2 24 [(.int .i64 (.ofNat 0)), (.int .u64 (.ofNat 0))] 1 [(0, 2, v4)] fun v5 h6 =>
pBuild [(.int .i64 (.ofNat 0)), (.int .i64 (.ofNat 0)), (.int .i64 (.ofNat 0)), (.bool false), (.int .i64 (.ofNat 0)), (.int .i64 (.ofNat 0)), (.int .u64 (.ofNat 0)), (.int .u64 (.ofNat 0)), (.int .i64 (.ofNat 0)), (.int .i64 (.ofNat 0)), .nils, .nils, .nils, (.str [])] [(4, 1, (.int .i64 (.ofNat 2))), (7, 1, (.int .u64 (.ofNat 5))), (8, 1, (.int .i64 (.ofNat 1))), (10, 1, v5)] fun v7 =>
pBuild [(.int .i64 (.ofNat 0)), (.int .u64 (.ofNat 0))] [(0, 1, (.int .i64 (.ofNat 7)))] fun v8 =>
pBuildS h6 24 [(.int .i64 (.ofNat 0)), (.int .u64 (.ofNat 0))] 1 [(0, 2, v8)] fun v9 h10 =>
pBuild [(.int .i64 (.ofNat 0)), (.int .i64 (.ofNat 0)), (.int .i64 (.ofNat 0)), (.bool false), (.int .i64 (.ofNat 0)), (.int .i64 (.ofNat 0)), (.int .u64 (.ofNat 0)), (.int .u64 (.ofNat 0)), (.int .i64 (.ofNat 0)), (.int .i64 (.ofNat 0)), .nils, .nils, .nils, (.str [])] [(4, 1, (.int .i64 (.ofNat 5))), (7, 1, (.int .u64 (.ofNat 3))), (8, 1, (.int .i64 (.ofNat 3))), (10, 1, v9)] fun v11 =>
pBuildS h10 29 [(.int .i64 (.ofNat 0)), (.int .i64 (.ofNat 0)), (.int .i64 (.ofNat 0)), (.bool false), (.int .i64 (.ofNat 0)), (.int .i64 (.ofNat 0)), (.int .u64 (.ofNat 0)), (.int .u64 (.ofNat 0)), (.int .i64 (.ofNat 0)), (.int .i64 (.ofNat 0)), .nils, .nils, .nils, (.str [])] 3 [(0, 14, v3), (14, 14, v7), (28, 14, v11)] fun v12 h13 =>
pMake h13 22 [(.int .u64 (.ofNat 0))] (.int .i64 (.ofNat 40)) (.int .i64 (.ofNat 40)) fun v14 h15 =>
pCall c (.fn 6 [] []) [v14, v12, (.int .i64 (.ofNat 2))] h15 fun v16 h17 =>
pCall c (.fn 8 [] []) [v12] h17 fun v18 h19 =>
pBuildS h19 3 [(.int .i64 (.ofNat 0))] 3 [(0, 1, (.int .i64 (.ofNat 2))), (1, 1, (.int .i64 (.ofNat 0))), (2, 1, (.int .i64 (.ofNat 1)))] fun v20 h21 =>
pCall c (.fn 7 [] []) [v18, v20] h21 fun v22 h23 =>
joinC (α := AV × AV × AV × AV × AV × Unit → AH → R) (fun s24 h25 =>
pPick s24.2.1 s24.1 (.bool false) fun v27 =>
joinC (α := AV × AV × AV × AV × AV × Unit → AH → R) (fun s28 h29 =>
pPick s28.2.1 s28.1 (.bool false) fun v31 =>
joinC (α := AV × AV × AV × AV × AV × Unit → AH → R) (fun s32 h33 =>
pPick s32.2.1 s32.1 (.bool false) fun v35 =>
joinC (α := AV × AV × AV × AV × AV × Unit → AH → R) (fun s36 h37 =>
pPick s36.2.1 s36.1 (.bool false) fun v39 =>
joinC (α := AV × AV × AV × AV × Unit → AH → R) (fun s40 h41 =>
pPick s40.2.1 s40.1 (.bool false) fun v43 =>
joinC (α := AV × AV × Unit → AH → R) (fun s44 h45 =>
pPick s44.2.1 s44.1 (.bool false) fun v47 =>
some (v47, h45)) fun j46 =>
pWant v43 true (
pCall c (.fn 11 [] []) [s40.2.2.1, s40.2.2.2.1] h41 fun v48 h49 =>
pUn .not v48 fun v50 =>
j46 (v50, v43, ()) h49) (
j46 (.undef, v43, ()) h41)) fun j42 =>
pWant v39 true (
pCall c (.fn 11 [] []) [s36.2.2.2.1, s36.2.2.2.2.1] h37 fun v51 h52 =>
j42 (v51, v39, s36.2.2.1, s36.2.2.2.2.1, ()) h52) (
j42 (.undef, v39, s36.2.2.1, s36.2.2.2.2.1, ()) h37)) fun j38 =>
pWant v35 true (
pIdxS s32.2.2.1 (.int .i64 (.ofNat 7)) 1 fun v53 =>
pLoad1 h33 v53 fun v54 =>
pInt .eql v54 (.int .u64 (.ofNat 9)) fun v55 =>
j38 (v55, v35, s32.2.2.1, s32.2.2.2.1, s32.2.2.2.2.1, ()) h33) (
j38 (.undef, v35, s32.2.2.1, s32.2.2.2.1, s32.2.2.2.2.1, ()) h33)) fun j34 =>
pWant v31 true (
pLenS s28.2.2.1 fun v56 =>
pInt .eql v56 (.int .i64 (.ofNat 40)) fun v57 =>
j34 (v57, v31, s28.2.2.1, s28.2.2.2.1, s28.2.2.2.2.1, ()) h29) (
j34 (.undef, v31, s28.2.2.1, s28.2.2.2.1, s28.2.2.2.2.1, ()) h29)) fun j30 =>
pWant v27 true (
pCall c (.fn 10 [] []) [s24.2.2.2.2.1] h25 fun v58 h59 =>
j30 (v58, v27, s24.2.2.1, s24.2.2.2.1, s24.2.2.2.2.1, ()) h59) (
j30 (.undef, v27, s24.2.2.1, s24.2.2.2.1, s24.2.2.2.2.1, ()) h25)) fun j26 =>
pWant v22 true (
pIdxS v12 (.int .i64 (.ofNat 0)) 14 fun v60 =>
pLoadN h23 v60 14 fun v61 =>
pIdxS v12 (.int .i64 (.ofNat 1)) 14 fun v62 =>
pLoadN h23 v62 14 fun v63 =>
pCall c (.fn 9 [] []) [v61, v63] h23 fun v64 h65 =>
j26 (v64, v22, v16, v14, v12, ()) h65) (
j26 (.undef, v22, v16, v14, v12, ()) h23)
theorem S3_eq (c : CV) (h : AH) : enterK Try.prog NN P3 c 3 [] h = S3 c h := by kernel_rfl
def W3 (c : CV) (l : List AV) (h : AH) : R := match l with | [] => S3 c h | _ => none
theorem W3_ok : WOk Try.prog 3 W3 := by
  intro c l h r e
  unfold W3 at e
  split at e
  · exact ⟨P3, by rw [S3_eq]; exact e⟩
  · cases e
/- quietus/quietuslaw29.HistoryOrder -/
def P4 : Pl := (.n none .z (.n none .z (.n none .z (.n none .z (.n none .z (.n none .z (.n none (.n none .z (.n none (.n (some [6, 5, 4, 3]) (.n none .z (.n none (.n (some [6, 5, 4, 3]) (.n none (.n none (.r [[41, 34, 6, 5, 4, 3], [50, 43, 6, 5, 4, 3]]) .z) (.n none .z (.n none .z (.n none (.r [[8, 7, 6, 5, 4, 3]]) (.n none (.r [[83, 78, 8, 7, 6, 5, 4, 3], [91, 85, 8, 7, 6, 5, 4, 3], [94, 91, 85, 8, 7, 6, 5, 4, 3], [96, 85, 8, 7, 6, 5, 4, 3], [100, 96, 85, 7, 6, 5, 4, 3], [102, 85, 7, 6, 5, 4, 3], [106, 102, 85, 7, 6, 5, 4, 3], [110, 106, 102, 85, 6, 5, 4, 3], [112, 102, 85, 6, 5, 4, 3], [113, 85, 6, 5, 4, 3]]) .z))))) .z) .z)) .z) .z)) .z)))))))
def S4 (c : CV) (a0 : AV) (h : AH) : R :=
pCall c (.fn 3 [] []) [] h fun v0 h1 =>
pUn .not v0 fun v2 =>
pCond v2 (
some ((.bool false), h1)) (
pCall c (.fn 12 [] []) [a0, (.bool false)] h1 fun v3 h4 =>
pCall c (.fn 8 [] []) [v3] h4 fun v5 h6 =>
pLenS v5 fun v7 =>
pLenS v3 fun v8 =>
pInt .neq v7 v8 fun v9 =>
pCond v9 (
some ((.bool false), h6)) (
pLenS v3 fun v10 =>
pMake h6 4 [(.bool false)] v10 v10 fun v11 h12 =>
loopC (σ := AV × AV × AV × AV × Unit) NN (fun i16 s13 h14 d15 =>
pLenS s13.2.2.1 fun v17 =>
pInt .lss s13.1 v17 fun v18 =>
pCond v18 (
joinC (α := AV × AV × AV × AV × Unit → AH → List Nat → R) (fun s19 h20 d21 =>
pInt .add s19.1 (.int .i64 (.ofNat 1)) fun v23 =>
i16 (v23, s19.2.1, s19.2.2.1, s19.2.2.2.1, ()) h20 d21) fun j22 =>
pIdxS s13.2.2.1 s13.1 1 fun v24 =>
pLoad1 h14 v24 fun v25 =>
pInt .lss v25 (.int .i64 (.ofNat 0)) fun v26 =>
joinC (α := AV × AV × AV × AV × AV × AV × Unit → AH → R) (fun s27 h28 =>
pPick s27.2.1 (.bool true) s27.1 fun v30 =>
joinC (α := AV × AV × AV × AV × AV × AV × Unit → AH → R) (fun s31 h32 =>
pPick s31.2.1 (.bool true) s31.1 fun v34 =>
pCond v34 (
pLeave d15 h32 fun h35 =>
some ((.bool false), h35)) (
pIdxS s31.2.2.2.2.1 s31.2.2.1 1 fun v36 =>
pLoad1 h32 v36 fun v37 =>
pIdxS s31.2.2.2.1 v37 1 fun v38 =>
pStore h32 v38 (.bool true) 1 fun h39 =>
pInt .eql s31.2.2.1 (.int .i64 (.ofNat 0)) fun v40 =>
pCond v40 (
j22 (s31.2.2.1, s31.2.2.2.1, s31.2.2.2.2.1, s31.2.2.2.2.2.1, ()) h39 d15) (
joinC (α := AV × AV × AV × AV × AV × AV × Unit → AH → R) (fun s41 h42 =>
pLoadN h42 s41.1 14 fun v44 =>
pLoadN h42 s41.2.1 14 fun v45 =>
pCall c (.fn 9 [] []) [v44, v45] h42 fun v46 h47 =>
joinC (α := AV × AV × AV × AV × AV × AV × AV × AV × Unit → AH → R) (fun s48 h49 =>
pPick s48.2.1 (.bool true) s48.1 fun v51 =>
joinC (α := AV × AV × AV × AV × AV × AV × AV × AV × Unit → AH → R) (fun s52 h53 =>
joinC (α := AV × AV × AV × AV × AV × AV × AV × AV × AV × Unit → AH → R) (fun s55 h56 =>
joinC (α := AV × AV × AV × AV × AV × AV × AV × AV × Unit → AH → R) (fun s58 h59 =>
joinC (α := AV × AV × AV × AV × AV × AV × AV × AV × Unit → AH → R) (fun s61 h62 =>
joinC (α := AV × AV × AV × AV × AV × AV × AV × Unit → AH → R) (fun s64 h65 =>
joinC (α := AV × AV × AV × AV × AV × AV × AV × AV × Unit → AH → R) (fun s67 h68 =>
joinC (α := AV × AV × AV × AV × AV × AV × AV × AV × Unit → AH → R) (fun s70 h71 =>
joinC (α := AV × AV × AV × AV × AV × AV × AV × Unit → AH → R) (fun s73 h74 =>
joinC (α := AV × AV × AV × AV × AV × AV × Unit → AH → R) (fun s76 h77 =>
pPick s76.2.1 (.bool true) s76.1 fun v79 =>
pCond v79 (
pLeave d15 h77 fun h80 =>
some ((.bool false), h80)) (
j22 (s76.2.2.1, s76.2.2.2.1, s76.2.2.2.2.1, s76.2.2.2.2.2.1, ()) h77 d15)) fun j78 =>
pWant s73.2.2.1 false (
pPick s73.2.1 s73.1 (.bool false) fun v81 =>
j78 (v81, s73.2.2.1, s73.2.2.2.1, s73.2.2.2.2.1, s73.2.2.2.2.2.1, s73.2.2.2.2.2.2.1, ()) h74) (
j78 (.undef, s73.2.2.1, s73.2.2.2.1, s73.2.2.2.2.1, s73.2.2.2.2.2.1, s73.2.2.2.2.2.2.1, ()) h74)) fun j75 =>
pWant s70.2.2.1 true (
pPick s70.2.1 s70.1 (.bool false) fun v82 =>
pUn .not v82 fun v83 =>
j75 (v83, s70.2.2.1, s70.2.2.2.1, s70.2.2.2.2.1, s70.2.2.2.2.2.1, s70.2.2.2.2.2.2.1, s70.2.2.2.2.2.2.2.1, ()) h71) (
j75 (.undef, s70.2.2.1, s70.2.2.2.1, s70.2.2.2.2.1, s70.2.2.2.2.2.1, s70.2.2.2.2.2.2.1, s70.2.2.2.2.2.2.2.1, ()) h71)) fun j72 =>
pWant s67.1 true (
pFieldA s67.2.2.2.1 11 fun v84 =>
pLoad1 h68 v84 fun v85 =>
pLenS v85 fun v86 =>
pInt .gtr v86 (.int .i64 (.ofNat 0)) fun v87 =>
j72 (v87, s67.1, s67.2.1, s67.2.2.1, s67.2.2.2.2.1, s67.2.2.2.2.2.1, s67.2.2.2.2.2.2.1, s67.2.2.2.2.2.2.2.1, ()) h68) (
j72 (.undef, s67.1, s67.2.1, s67.2.2.1, s67.2.2.2.2.1, s67.2.2.2.2.2.1, s67.2.2.2.2.2.2.1, s67.2.2.2.2.2.2.2.1, ()) h68)) fun j69 =>
pWant s64.1 true (
pFieldA s64.2.2.1 4 fun v88 =>
pLoad1 h65 v88 fun v89 =>
pInt .eql v89 (.int .i64 (.ofNat 2)) fun v90 =>
j69 (v90, s64.1, s64.2.1, s64.2.2.1, s64.2.2.2.1, s64.2.2.2.2.1, s64.2.2.2.2.2.1, s64.2.2.2.2.2.2.1, ()) h65) (
j69 (.undef, s64.1, s64.2.1, s64.2.2.1, s64.2.2.2.1, s64.2.2.2.2.1, s64.2.2.2.2.2.1, s64.2.2.2.2.2.2.1, ()) h65)) fun j66 =>
pWant s61.2.2.1 false (
pPick s61.2.1 s61.1 (.bool false) fun v91 =>
j66 (v91, s61.2.2.1, s61.2.2.2.1, s61.2.2.2.2.1, s61.2.2.2.2.2.1, s61.2.2.2.2.2.2.1, s61.2.2.2.2.2.2.2.1, ()) h62) (
j66 (.undef, s61.2.2.1, s61.2.2.2.1, s61.2.2.2.2.1, s61.2.2.2.2.2.1, s61.2.2.2.2.2.2.1, s61.2.2.2.2.2.2.2.1, ()) h62)) fun j63 =>
pWant s58.1 true (
pFieldA s58.2.2.1 11 fun v92 =>
pLoad1 h59 v92 fun v93 =>
pLenS v93 fun v94 =>
pInt .gtr v94 (.int .i64 (.ofNat 0)) fun v95 =>
j63 (v95, s58.1, s58.2.1, s58.2.2.2.1, s58.2.2.2.2.1, s58.2.2.2.2.2.1, s58.2.2.2.2.2.2.1, s58.2.2.2.2.2.2.2.1, ()) h59) (
j63 (.undef, s58.1, s58.2.1, s58.2.2.2.1, s58.2.2.2.2.1, s58.2.2.2.2.2.1, s58.2.2.2.2.2.2.1, s58.2.2.2.2.2.2.2.1, ()) h59)) fun j60 =>
pWant s55.2.2.1 false (
pPick s55.2.1 s55.1 (.bool false) fun v96 =>
j60 (v96, s55.2.2.1, s55.2.2.2.1, s55.2.2.2.2.1, s55.2.2.2.2.2.1, s55.2.2.2.2.2.2.1, s55.2.2.2.2.2.2.2.1, s55.2.2.2.2.2.2.2.2.1, ()) h56) (
j60 (.undef, s55.2.2.1, s55.2.2.2.1, s55.2.2.2.2.1, s55.2.2.2.2.2.1, s55.2.2.2.2.2.2.1, s55.2.2.2.2.2.2.2.1, s55.2.2.2.2.2.2.2.2.1, ()) h56)) fun j57 =>
pWant s52.1 true (
pFieldA s52.2.2.1 4 fun v97 =>
pLoad1 h53 v97 fun v98 =>
pInt .eql v98 (.int .i64 (.ofNat 2)) fun v99 =>
j57 (v99, s52.1, s52.2.1, s52.2.2.1, s52.2.2.2.1, s52.2.2.2.2.1, s52.2.2.2.2.2.1, s52.2.2.2.2.2.2.1, s52.2.2.2.2.2.2.2.1, ()) h53) (
j57 (.undef, s52.1, s52.2.1, s52.2.2.1, s52.2.2.2.1, s52.2.2.2.2.1, s52.2.2.2.2.2.1, s52.2.2.2.2.2.2.1, s52.2.2.2.2.2.2.2.1, ()) h53)) fun j54 =>
pWant v51 false (
pFieldA s48.2.2.2.1 7 fun v100 =>
pLoad1 h49 v100 fun v101 =>
pFieldA s48.2.2.1 7 fun v102 =>
pLoad1 h49 v102 fun v103 =>
pInt .eql v101 v103 fun v104 =>
j54 (v104, v51, s48.2.2.1, s48.2.2.2.1, s48.2.2.2.2.1, s48.2.2.2.2.2.1, s48.2.2.2.2.2.2.1, s48.2.2.2.2.2.2.2.1, ()) h49) (
j54 (.undef, v51, s48.2.2.1, s48.2.2.2.1, s48.2.2.2.2.1, s48.2.2.2.2.2.1, s48.2.2.2.2.2.2.1, s48.2.2.2.2.2.2.2.1, ()) h49)) fun j50 =>
pWant v46 false (
pFieldA s41.1 7 fun v105 =>
pLoad1 h47 v105 fun v106 =>
pFieldA s41.2.1 7 fun v107 =>
pLoad1 h47 v107 fun v108 =>
pInt .lss v106 v108 fun v109 =>
j50 (v109, v46, s41.1, s41.2.1, s41.2.2.1, s41.2.2.2.1, s41.2.2.2.2.1, s41.2.2.2.2.2.1, ()) h47) (
j50 (.undef, v46, s41.1, s41.2.1, s41.2.2.1, s41.2.2.2.1, s41.2.2.2.2.1, s41.2.2.2.2.2.1, ()) h47)) fun j43 =>
pInt .sub s31.2.2.1 (.int .i64 (.ofNat 1)) fun v110 =>
pIdxS s31.2.2.2.2.1 v110 1 fun v111 =>
pLoad1 h39 v111 fun v112 =>
pIdxS s31.2.2.2.2.2.1 v112 14 fun v113 =>
pLoadN h39 v113 14 fun v114 =>
pIdxS s31.2.2.2.2.1 s31.2.2.1 1 fun v115 =>
pLoad1 h39 v115 fun v116 =>
pIdxS s31.2.2.2.2.2.1 v116 14 fun v117 =>
pLoadN h39 v117 14 fun v118 =>
pBox h39 29 (.agg [(.int .i64 (.ofNat 0)), (.int .i64 (.ofNat 0)), (.int .i64 (.ofNat 0)), (.bool false), (.int .i64 (.ofNat 0)), (.int .i64 (.ofNat 0)), (.int .u64 (.ofNat 0)), (.int .u64 (.ofNat 0)), (.int .i64 (.ofNat 0)), (.int .i64 (.ofNat 0)), .nils, .nils, .nils, (.str [])]) fun v119 h120 =>
pBox h120 29 (.agg [(.int .i64 (.ofNat 0)), (.int .i64 (.ofNat 0)), (.int .i64 (.ofNat 0)), (.bool false), (.int .i64 (.ofNat 0)), (.int .i64 (.ofNat 0)), (.int .u64 (.ofNat 0)), (.int .u64 (.ofNat 0)), (.int .i64 (.ofNat 0)), (.int .i64 (.ofNat 0)), .nils, .nils, .nils, (.str [])]) fun v121 h122 =>
pStore h122 v119 v114 14 fun h123 =>
pStore h123 v121 v118 14 fun h124 =>
pChk v117 (some 14) v118 h122 h123 h39.nx <|
pChk v115 none v116 h122 h123 h39.nx <|
j43 (v121, v119, s31.2.2.1, s31.2.2.2.1, s31.2.2.2.2.1, s31.2.2.2.2.2.1, ()) h124))) fun j33 =>
pWant v30 false (
pIdxS s27.2.2.2.2.1 s27.2.2.1 1 fun v125 =>
pLoad1 h28 v125 fun v126 =>
pIdxS s27.2.2.2.1 v126 1 fun v127 =>
pLoad1 h28 v127 fun v128 =>
j33 (v128, v30, s27.2.2.1, s27.2.2.2.1, s27.2.2.2.2.1, s27.2.2.2.2.2.1, ()) h28) (
j33 (.undef, v30, s27.2.2.1, s27.2.2.2.1, s27.2.2.2.2.1, s27.2.2.2.2.2.1, ()) h28)) fun j29 =>
pWant v26 false (
pIdxS s13.2.2.1 s13.1 1 fun v129 =>
pLoad1 h14 v129 fun v130 =>
pLenS s13.2.2.2.1 fun v131 =>
pInt .geq v130 v131 fun v132 =>
j29 (v132, v26, s13.1, s13.2.1, s13.2.2.1, s13.2.2.2.1, ()) h14) (
j29 (.undef, v26, s13.1, s13.2.1, s13.2.2.1, s13.2.2.2.1, ()) h14)) (
pLeave d15 h14 fun h133 =>
some ((.bool true), h133))) ((.int .i64 (.ofNat 0)), v11, v5, v3, ()) h12 []))
theorem S4_eq (c : CV) (a0 : AV) (h : AH) : enterK Try.prog NN P4 c 4 [a0] h = S4 c a0 h := by kernel_rfl
def W4 (c : CV) (l : List AV) (h : AH) : R := match l with | [a0] => S4 c a0 h | _ => none
theorem W4_ok : WOk Try.prog 4 W4 := by
  intro c l h r e
  unfold W4 at e
  split at e
  · exact ⟨P4, by rw [S4_eq]; exact e⟩
  · cases e
/- quietus/quietuslaw29.HistoryHeap -/
def P5 : Pl := (.n none .z (.n none .z (.n none .z (.n none .z (.n none .z (.n none .z (.n none (.n none (.r [[40, 35, 8, 7, 6, 5], [45, 42, 8, 7, 6, 5]]) .z) (.n none .z (.n none (.n none .z (.n none (.n (some [10, 9, 8, 6, 5]) (.n none .z (.n none (.n none (.n none (.n none (.r [[67, 60, 10, 9, 8, 6, 5]]) .z) (.n none .z (.n none .z (.n none (.n (some [12, 11, 10, 9, 8, 6, 5]) (.n none (.n none (.r [[84, 79, 12, 11, 10, 9, 8, 6, 5]]) .z) .z) .z) .z)))) .z) .z)) .z) .z)) .z)))))))))
def S5 (c : CV) (a0 a1 : AV) (h : AH) : R :=
pCall c (.fn 3 [] []) [] h fun v0 h1 =>
pUn .not v0 fun v2 =>
pCond v2 (
some ((.bool false), h1)) (
pLenS a1 fun v3 =>
pInt .gtr v3 (.int .i64 (.ofNat 100)) fun v4 =>
pCond v4 (
some ((.bool true), h1)) (
pCall c (.fn 12 [] []) [a0, (.bool false)] h1 fun v5 h6 =>
pCall c (.fn 8 [] []) [v5] h6 fun v7 h8 =>
pCall c (.fn 6 [] []) [a1, v5, (.int .i64 (.ofNat 0))] h8 fun v9 h10 =>
pLenS v5 fun v11 =>
pCall c (.fn 6 [] []) [a1, v5, v11] h10 fun v12 h13 =>
pLenS v7 fun v14 =>
pLenS v5 fun v15 =>
pInt .neq v14 v15 fun v16 =>
joinC (α := AV × AV × AV × AV × AV × AV × Unit → AH → R) (fun s17 h18 =>
pPick s17.2.1 (.bool true) s17.1 fun v20 =>
joinC (α := AV × AV × AV × AV × AV × AV × Unit → AH → R) (fun s21 h22 =>
pPick s21.2.1 (.bool true) s21.1 fun v24 =>
pCond v24 (
some ((.bool false), h22)) (
pAppend h22 22 1 .nils s21.2.2.2.1 fun v25 h26 =>
loopC (σ := AV × AV × AV × AV × AV × Unit) NN (fun i30 s27 h28 d29 =>
pLenS s27.2.2.2.1 fun v31 =>
pInt .lss s27.1 v31 fun v32 =>
pCond v32 (
pIdxS s27.2.2.2.1 s27.1 1 fun v33 =>
pLoad1 h28 v33 fun v34 =>
pInt .lss v34 (.int .i64 (.ofNat 0)) fun v35 =>
joinC (α := AV × AV × AV × AV × AV × AV × AV × Unit → AH → R) (fun s36 h37 =>
pPick s36.2.1 (.bool true) s36.1 fun v39 =>
pCond v39 (
pLeave d29 h37 fun h40 =>
some ((.bool false), h40)) (
pIdxS s36.2.2.2.2.2.1 s36.2.2.1 1 fun v41 =>
pLoad1 h37 v41 fun v42 =>
pIdxS s36.2.2.2.2.2.2.1 v42 14 fun v43 =>
pLoadN h37 v43 14 fun v44 =>
pBox h37 29 (.agg [(.int .i64 (.ofNat 0)), (.int .i64 (.ofNat 0)), (.int .i64 (.ofNat 0)), (.bool false), (.int .i64 (.ofNat 0)), (.int .i64 (.ofNat 0)), (.int .u64 (.ofNat 0)), (.int .u64 (.ofNat 0)), (.int .i64 (.ofNat 0)), (.int .i64 (.ofNat 0)), .nils, .nils, .nils, (.str [])]) fun v45 h46 =>
pStore h46 v45 v44 14 fun h47 =>
loopC (σ := AV × AV × AV × AV × AV × AV × AV × Unit) NN (fun i51 s48 h49 d50 =>
pFieldA s48.2.1 4 fun v52 =>
pLoad1 h49 v52 fun v53 =>
pInt .eql v53 (.int .i64 (.ofNat 2)) fun v54 =>
joinC (α := AV × AV × AV × AV × AV × AV × AV × AV × AV × Unit → AH → R) (fun s55 h56 =>
pPick s55.2.1 s55.1 (.bool false) fun v58 =>
pCond v58 (
pFieldA s55.2.2.2.1 11 fun v59 =>
pLoad1 h56 v59 fun v60 =>
pIdxS v60 s55.2.2.1 2 fun v61 =>
pFieldA v61 0 fun v62 =>
pLoad1 h56 v62 fun v63 =>
pFieldA s55.2.2.2.1 11 fun v64 =>
pLoad1 h56 v64 fun v65 =>
pIdxS v65 s55.2.2.1 2 fun v66 =>
pFieldA v66 1 fun v67 =>
pLoad1 h56 v67 fun v68 =>
pIdxS s55.2.2.2.2.2.1 v63 1 fun v69 =>
pStore h56 v69 v68 1 fun h70 =>
pInt .add s55.2.2.1 (.int .i64 (.ofNat 1)) fun v71 =>
i51 (v71, s55.2.2.2.1, s55.2.2.2.2.1, s55.2.2.2.2.2.1, s55.2.2.2.2.2.2.1, s55.2.2.2.2.2.2.2.1, s55.2.2.2.2.2.2.2.2.1, ()) h70 d50) (
pInt .add s55.2.2.2.2.1 (.int .i64 (.ofNat 1)) fun v72 =>
i30 (v72, s55.2.2.2.2.2.1, s55.2.2.2.2.2.2.1, s55.2.2.2.2.2.2.2.1, s55.2.2.2.2.2.2.2.2.1, ()) h56 d50)) fun j57 =>
pWant v54 true (
pFieldA s48.2.1 11 fun v73 =>
pLoad1 h49 v73 fun v74 =>
pLenS v74 fun v75 =>
pInt .lss s48.1 v75 fun v76 =>
j57 (v76, v54, s48.1, s48.2.1, s48.2.2.1, s48.2.2.2.1, s48.2.2.2.2.1, s48.2.2.2.2.2.1, s48.2.2.2.2.2.2.1, ()) h49) (
j57 (.undef, v54, s48.1, s48.2.1, s48.2.2.1, s48.2.2.2.1, s48.2.2.2.2.1, s48.2.2.2.2.2.1, s48.2.2.2.2.2.2.1, ()) h49)) ((.int .i64 (.ofNat 0)), v45, s36.2.2.1, s36.2.2.2.1, s36.2.2.2.2.1, s36.2.2.2.2.2.1, s36.2.2.2.2.2.2.1, ()) h47 d29)) fun j38 =>
pWant v35 false (
pIdxS s27.2.2.2.1 s27.1 1 fun v77 =>
pLoad1 h28 v77 fun v78 =>
pLenS s27.2.2.2.2.1 fun v79 =>
pInt .geq v78 v79 fun v80 =>
j38 (v80, v35, s27.1, s27.2.1, s27.2.2.1, s27.2.2.2.1, s27.2.2.2.2.1, ()) h28) (
j38 (.undef, v35, s27.1, s27.2.1, s27.2.2.1, s27.2.2.2.1, s27.2.2.2.2.1, ()) h28)) (
pCall c (.fn 13 [] []) [s27.2.2.1, s27.2.1] h28 fun v81 h82 =>
pLeave d29 h82 fun h83 =>
some (v81, h83))) ((.int .i64 (.ofNat 0)), v25, s21.2.2.1, s21.2.2.2.2.1, s21.2.2.2.2.2.1, ()) h26 [])) fun j23 =>
pWant v20 false (
pLenS s17.2.2.2.1 fun v84 =>
pInt .lss v84 (.int .i64 (.ofNat 32)) fun v85 =>
j23 (v85, v20, s17.2.2.1, s17.2.2.2.1, s17.2.2.2.2.1, s17.2.2.2.2.2.1, ()) h18) (
j23 (.undef, v20, s17.2.2.1, s17.2.2.2.1, s17.2.2.2.2.1, s17.2.2.2.2.2.1, ()) h18)) fun j19 =>
pWant v16 false (
pLenS v9 fun v86 =>
pLenS v12 fun v87 =>
pInt .neq v86 v87 fun v88 =>
j19 (v88, v16, v12, v9, v7, v5, ()) h13) (
j19 (.undef, v16, v12, v9, v7, v5, ()) h13)))
theorem S5_eq (c : CV) (a0 a1 : AV) (h : AH) : enterK Try.prog NN P5 c 5 [a0, a1] h = S5 c a0 a1 h := by kernel_rfl
def W5 (c : CV) (l : List AV) (h : AH) : R := match l with | [a0, a1] => S5 c a0 a1 h | _ => none
theorem W5_ok : WOk Try.prog 5 W5 := by
  intro c l h r e
  unfold W5 at e
  split at e
  · exact ⟨P5, by rw [S5_eq]; exact e⟩
  · cases e
/- quietus/history.Heap -/
def P6 : Pl := (.n none .z (.n none .z (.n none (.n none .z (.n none (.n (some [21, 20, 19, 7, 1]) (.n none .z (.n none .z (.n none (.n (some [21, 20, 19, 7, 1]) .z .z) .z))) .z) .z)) .z)))
def S6 (c : CV) (a0 a1 a2 : AV) (h : AH) : R :=
pCall c (.fn 14 [] []) [a0, .nils] h fun v0 h1 =>
pCall c (.fn 8 [] []) [a1] h1 fun v2 h3 =>
pLenS a1 fun v4 =>
pMM false [a2, v4] fun v5 =>
pMM true [(.int .i64 (.ofNat 0)), v5] fun v6 =>
pSlice h3 3 1 v2 none (some v6) fun v7 =>
pLenS v7 fun v8 =>
loopC (σ := AV × AV × AV × AV × AV × Unit) NN (fun i12 s9 h10 d11 =>
pInt .lss s9.1 s9.2.1 fun v13 =>
pCond v13 (
joinC (α := AV × AV × AV × AV × AV × Unit → AH → List Nat → R) (fun s14 h15 d16 =>
pInt .add s14.1 (.int .i64 (.ofNat 1)) fun v18 =>
i12 (v18, s14.2.1, s14.2.2.1, s14.2.2.2.1, s14.2.2.2.2.1, ()) h15 d16) fun j17 =>
pIdxS s9.2.2.1 s9.1 1 fun v19 =>
pLoad1 h10 v19 fun v20 =>
pIdxS s9.2.2.2.2.1 v20 14 fun v21 =>
pFieldA v21 4 fun v22 =>
pLoad1 h10 v22 fun v23 =>
pInt .eql v23 (.int .i64 (.ofNat 2)) fun v24 =>
pCond v24 (
pIdxS s9.2.2.2.2.1 v20 14 fun v25 =>
pFieldA v25 11 fun v26 =>
pLoad1 h10 v26 fun v27 =>
pCall c (.fn 14 [] []) [s9.2.2.2.1, v27] h10 fun v28 h29 =>
j17 (s9.1, s9.2.1, s9.2.2.1, v28, s9.2.2.2.2.1, ()) h29 d11) (
j17 (s9.1, s9.2.1, s9.2.2.1, s9.2.2.2.1, s9.2.2.2.2.1, ()) h10 d11)) (
pLeave d11 h10 fun h30 =>
some (s9.2.2.2.1, h30))) ((.int .i64 (.ofNat 0)), v8, v7, v0, a1, ()) h3 []
theorem S6_eq (c : CV) (a0 a1 a2 : AV) (h : AH) : enterK Try.prog NN P6 c 6 [a0, a1, a2] h = S6 c a0 a1 a2 h := by kernel_rfl
def W6 (c : CV) (l : List AV) (h : AH) : R := match l with | [a0, a1, a2] => S6 c a0 a1 a2 h | _ => none
theorem W6_ok : WOk Try.prog 6 W6 := by
  intro c l h r e
  unfold W6 at e
  split at e
  · exact ⟨P6, by rw [S6_eq]; exact e⟩
  · cases e
/- quietus/quietusbook.Same[int] -/
def P7 : Pl := (.n none .z (.n none .z (.n none (.n none .z (.n none (.n (some [5, 1, 0]) .z .z) .z)) .z)))
def S7 (_ : CV) (a0 a1 : AV) (h : AH) : R :=
pLenS a0 fun v0 =>
pLenS a1 fun v1 =>
pInt .neq v0 v1 fun v2 =>
pCond v2 (
some ((.bool false), h)) (
loopC (σ := AV × AV × AV × Unit) NN (fun i6 s3 h4 d5 =>
pLenS s3.2.2.1 fun v7 =>
pInt .lss s3.1 v7 fun v8 =>
pCond v8 (
pIdxS s3.2.2.1 s3.1 1 fun v9 =>
pLoad1 h4 v9 fun v10 =>
pIdxS s3.2.1 s3.1 1 fun v11 =>
pLoad1 h4 v11 fun v12 =>
pInt .neq v10 v12 fun v13 =>
pCond v13 (
pLeave d5 h4 fun h14 =>
some ((.bool false), h14)) (
pInt .add s3.1 (.int .i64 (.ofNat 1)) fun v15 =>
i6 (v15, s3.2.1, s3.2.2.1, ()) h4 d5)) (
pLeave d5 h4 fun h16 =>
some ((.bool true), h16))) ((.int .i64 (.ofNat 0)), a1, a0, ()) h [])
theorem S7_eq (c : CV) (a0 a1 : AV) (h : AH) : enterK Try.prog NN P7 c 7 [a0, a1] h = S7 c a0 a1 h := by kernel_rfl
def W7 (c : CV) (l : List AV) (h : AH) : R := match l with | [a0, a1] => S7 c a0 a1 h | _ => none
theorem W7_ok : WOk Try.prog 7 W7 := by
  intro c l h r e
  unfold W7 at e
  split at e
  · exact ⟨P7, by rw [S7_eq]; exact e⟩
  · cases e
/- quietus/history.Order -/
def P8 : Pl := (.n none .z (.n none .z (.n none (.n none .z (.n none (.n (some [10, 9, 3, 1]) .z .z) .z)) .z)))
def S8 (c : CV) (a0 : AV) (h : AH) : R :=
pBox h 30 a0 fun v0 h1 =>
pLoad1 h1 v0 fun v2 =>
pLenS v2 fun v3 =>
pMake h1 3 [(.int .i64 (.ofNat 0))] v3 v3 fun v4 h5 =>
pLenS v4 fun v6 =>
loopC (σ := AV × AV × AV × AV × Unit) NN (fun i10 s7 h8 d9 =>
pInt .lss s7.1 s7.2.1 fun v11 =>
pCond v11 (
pIdxS s7.2.2.1 s7.1 1 fun v12 =>
pStore h8 v12 s7.1 1 fun h13 =>
pInt .add s7.1 (.int .i64 (.ofNat 1)) fun v14 =>
i10 (v14, s7.2.1, s7.2.2.1, s7.2.2.2.1, ()) h13 d9) (
pCall c (.fn 15 [] []) [s7.2.2.1, (.fn 16 [] [s7.2.2.2.1])] h8 fun _ h16 =>
pLeave d9 h16 fun h17 =>
some (s7.2.2.1, h17))) ((.int .i64 (.ofNat 0)), v6, v4, v0, ()) h5 []
theorem S8_eq (c : CV) (a0 : AV) (h : AH) : enterK Try.prog NN P8 c 8 [a0] h = S8 c a0 h := by kernel_rfl
def W8 (c : CV) (l : List AV) (h : AH) : R := match l with | [a0] => S8 c a0 h | _ => none
theorem W8_ok : WOk Try.prog 8 W8 := by
  intro c l h r e
  unfold W8 at e
  split at e
  · exact ⟨P8, by rw [S8_eq]; exact e⟩
  · cases e
/- quietus/history.Less -/
def P9 : Pl := (.n none .z (.n none (.n none (.n none .z (.n none .z (.n none (.r [[16, 3, 2]]) .z))) .z) .z))
def S9 (c : CV) (a0 a1 : AV) (h : AH) : R :=
pBox h 29 a0 fun v0 h1 =>
pBox h1 29 a1 fun v2 h3 =>
pFieldA v0 7 fun v4 =>
pLoad1 h3 v4 fun v5 =>
pFieldA v2 7 fun v6 =>
pLoad1 h3 v6 fun v7 =>
pInt .neq v5 v7 fun v8 =>
pCond v8 (
pFieldA v0 7 fun v9 =>
pLoad1 h3 v9 fun v10 =>
pFieldA v2 7 fun v11 =>
pLoad1 h3 v11 fun v12 =>
pInt .lss v10 v12 fun v13 =>
some (v13, h3)) (
joinC (α := AV × AV × AV × Unit → AH → R) (fun s14 h15 =>
pCond s14.1 (
pLoadN h15 s14.2.2.1 14 fun v17 =>
pCall c (.fn 17 [] []) [v17] h15 fun v18 h19 =>
some (v18, h19)) (
pFieldA s14.2.2.1 8 fun v20 =>
pLoad1 h15 v20 fun v21 =>
pFieldA s14.2.1 8 fun v22 =>
pLoad1 h15 v22 fun v23 =>
pInt .lss v21 v23 fun v24 =>
some (v24, h15))) fun j16 =>
pLoadN h3 v0 14 fun v25 =>
pCall c (.fn 17 [] []) [v25] h3 fun v26 h27 =>
pLoadN h27 v2 14 fun v28 =>
pCall c (.fn 17 [] []) [v28] h27 fun v29 h30 =>
pEq .bool true v26 v29 fun v31 =>
pChk v2 (some 14) v28 h3 h27 h3.nx <|
j16 (v31, v2, v0, ()) h30)
theorem S9_eq (c : CV) (a0 a1 : AV) (h : AH) : enterK Try.prog NN P9 c 9 [a0, a1] h = S9 c a0 a1 h := by kernel_rfl
def W9 (c : CV) (l : List AV) (h : AH) : R := match l with | [a0, a1] => S9 c a0 a1 h | _ => none
theorem W9_ok : WOk Try.prog 9 W9 := by
  intro c l h r e
  unfold W9 at e
  split at e
  · exact ⟨P9, by rw [S9_eq]; exact e⟩
  · cases e
/- quietus/history.Keeps -/
def P10 : Pl := (.n none .z (.n none .z (.n none (.n none .z (.n none (.n (some [16, 15, 14, 3, 0]) .z .z) .z)) (.n none (.n none .z (.n none (.n (some [28, 27, 26, 3, 0]) (.n none .z (.n none .z (.n none (.n none (.n none .z (.n none .z (.n none (.n (some [35, 34, 33, 28, 27, 26, 7, 6, 3, 0]) (.n none .z (.n none .z (.n none (.n none (.n none .z (.n none (.r [[48, 43, 35, 34, 33, 28, 27, 26, 8, 7, 6, 3, 0], [59, 50, 35, 34, 33, 28, 27, 26, 7, 6, 3, 0]]) .z)) .z) .z))) .z) .z))) .z) .z))) .z) .z)) .z))))
def S10 (c : CV) (a0 : AV) (h : AH) : R :=
pLenS a0 fun v0 =>
pMake h 3 [(.int .i64 (.ofNat 0))] v0 v0 fun v1 h2 =>
pCall c (.fn 8 [] []) [a0] h2 fun v3 h4 =>
pLenS v3 fun v5 =>
loopC (σ := AV × AV × AV × AV × AV × Unit) NN (fun i9 s6 h7 d8 =>
pInt .lss s6.1 s6.2.1 fun v10 =>
pCond v10 (
pIdxS s6.2.2.1 s6.1 1 fun v11 =>
pLoad1 h7 v11 fun v12 =>
pIdxS s6.2.2.2.1 v12 1 fun v13 =>
pStore h7 v13 s6.1 1 fun h14 =>
pInt .add s6.1 (.int .i64 (.ofNat 1)) fun v15 =>
i9 (v15, s6.2.1, s6.2.2.1, s6.2.2.2.1, s6.2.2.2.2.1, ()) h14 d8) (
pLenS s6.2.2.2.2.1 fun v16 =>
loopC (σ := AV × AV × AV × AV × AV × Unit) NN (fun i20 s17 h18 d19 =>
pInt .lss s17.1 s17.2.1 fun v21 =>
pCond v21 (
pIdxS s17.2.2.1 s17.1 14 fun v22 =>
pLoadN h18 v22 14 fun v23 =>
pBox h18 29 (.agg [(.int .i64 (.ofNat 0)), (.int .i64 (.ofNat 0)), (.int .i64 (.ofNat 0)), (.bool false), (.int .i64 (.ofNat 0)), (.int .i64 (.ofNat 0)), (.int .u64 (.ofNat 0)), (.int .u64 (.ofNat 0)), (.int .i64 (.ofNat 0)), (.int .i64 (.ofNat 0)), .nils, .nils, .nils, (.str [])]) fun v24 h25 =>
pStore h25 v24 v23 14 fun h26 =>
pLenS s17.2.2.2.2.1 fun v27 =>
loopC (σ := AV × AV × AV × AV × AV × AV × AV × AV × AV × AV × Unit) NN (fun i31 s28 h29 d30 =>
pInt .lss s28.1 s28.2.1 fun v32 =>
pCond v32 (
pIdxS s28.2.2.1 s28.1 14 fun v33 =>
pLoadN h29 v33 14 fun v34 =>
pBox h29 29 (.agg [(.int .i64 (.ofNat 0)), (.int .i64 (.ofNat 0)), (.int .i64 (.ofNat 0)), (.bool false), (.int .i64 (.ofNat 0)), (.int .i64 (.ofNat 0)), (.int .u64 (.ofNat 0)), (.int .u64 (.ofNat 0)), (.int .i64 (.ofNat 0)), (.int .i64 (.ofNat 0)), .nils, .nils, .nils, (.str [])]) fun v35 h36 =>
pStore h36 v35 v34 14 fun h37 =>
pFieldA s28.2.2.2.2.2.2.1 9 fun v38 =>
pLoad1 h37 v38 fun v39 =>
pInt .gtr v39 (.int .i64 (.ofNat 0)) fun v40 =>
joinC (α := AV × AV × AV × AV × AV × AV × AV × AV × AV × AV × AV × AV × AV × Unit → AH → R) (fun s41 h42 =>
pPick s41.2.1 s41.1 (.bool false) fun v44 =>
joinC (α := AV × AV × AV × AV × AV × AV × AV × AV × AV × AV × AV × AV × Unit → AH → R) (fun s45 h46 =>
pPick s45.2.1 s45.1 (.bool false) fun v48 =>
pCond v48 (
pLeave d30 h46 fun h49 =>
some ((.bool false), h49)) (
pInt .add s45.2.2.1 (.int .i64 (.ofNat 1)) fun v50 =>
i31 (v50, s45.2.2.2.1, s45.2.2.2.2.1, s45.2.2.2.2.2.1, s45.2.2.2.2.2.2.1, s45.2.2.2.2.2.2.2.1, s45.2.2.2.2.2.2.2.2.1, s45.2.2.2.2.2.2.2.2.2.1, s45.2.2.2.2.2.2.2.2.2.2.1, s45.2.2.2.2.2.2.2.2.2.2.2.1, ()) h46 d30)) fun j47 =>
pWant v44 true (
pIdxS s41.2.2.2.2.2.2.2.2.2.2.2.1 s41.2.2.2.2.2.2.2.2.2.2.1 1 fun v51 =>
pLoad1 h42 v51 fun v52 =>
pIdxS s41.2.2.2.2.2.2.2.2.2.2.2.1 s41.2.2.2.2.2.2.2.2.1 1 fun v53 =>
pLoad1 h42 v53 fun v54 =>
pInt .gtr v52 v54 fun v55 =>
j47 (v55, v44, s41.2.2.1, s41.2.2.2.1, s41.2.2.2.2.1, s41.2.2.2.2.2.1, s41.2.2.2.2.2.2.1, s41.2.2.2.2.2.2.2.1, s41.2.2.2.2.2.2.2.2.2.1, s41.2.2.2.2.2.2.2.2.2.2.1, s41.2.2.2.2.2.2.2.2.2.2.2.1, s41.2.2.2.2.2.2.2.2.2.2.2.2.1, ()) h42) (
j47 (.undef, v44, s41.2.2.1, s41.2.2.2.1, s41.2.2.2.2.1, s41.2.2.2.2.2.1, s41.2.2.2.2.2.2.1, s41.2.2.2.2.2.2.2.1, s41.2.2.2.2.2.2.2.2.2.1, s41.2.2.2.2.2.2.2.2.2.2.1, s41.2.2.2.2.2.2.2.2.2.2.2.1, s41.2.2.2.2.2.2.2.2.2.2.2.2.1, ()) h42)) fun j43 =>
pWant v40 true (
pFieldA s28.2.2.2.2.2.2.1 9 fun v56 =>
pLoad1 h37 v56 fun v57 =>
pFieldA v35 8 fun v58 =>
pLoad1 h37 v58 fun v59 =>
pInt .lss v57 v59 fun v60 =>
j43 (v60, v40, s28.1, s28.2.1, s28.2.2.1, s28.2.2.2.1, s28.2.2.2.2.1, s28.2.2.2.2.2.1, s28.1, s28.2.2.2.2.2.2.1, s28.2.2.2.2.2.2.2.1, s28.2.2.2.2.2.2.2.2.1, s28.2.2.2.2.2.2.2.2.2.1, ()) h37) (
j43 (.undef, v40, s28.1, s28.2.1, s28.2.2.1, s28.2.2.2.1, s28.2.2.2.2.1, s28.2.2.2.2.2.1, s28.1, s28.2.2.2.2.2.2.1, s28.2.2.2.2.2.2.2.1, s28.2.2.2.2.2.2.2.2.1, s28.2.2.2.2.2.2.2.2.2.1, ()) h37)) (
pInt .add s28.2.2.2.1 (.int .i64 (.ofNat 1)) fun v61 =>
i20 (v61, s28.2.2.2.2.1, s28.2.2.2.2.2.1, s28.2.2.2.2.2.2.2.2.1, s28.2.2.2.2.2.2.2.2.2.1, ()) h29 d30)) ((.int .i64 (.ofNat 0)), v27, s17.2.2.2.2.1, s17.1, s17.2.1, s17.2.2.1, v24, s17.1, s17.2.2.2.1, s17.2.2.2.2.1, ()) h26 d19) (
pLeave d19 h18 fun h62 =>
some ((.bool true), h62))) ((.int .i64 (.ofNat 0)), v16, s6.2.2.2.2.1, s6.2.2.2.1, s6.2.2.2.2.1, ()) h7 d8)) ((.int .i64 (.ofNat 0)), v5, v3, v1, a0, ()) h4 []
theorem S10_eq (c : CV) (a0 : AV) (h : AH) : enterK Try.prog NN P10 c 10 [a0] h = S10 c a0 h := by kernel_rfl
def W10 (c : CV) (l : List AV) (h : AH) : R := match l with | [a0] => S10 c a0 h | _ => none
theorem W10_ok : WOk Try.prog 10 W10 := by
  intro c l h r e
  unfold W10 at e
  split at e
  · exact ⟨P10, by rw [S10_eq]; exact e⟩
  · cases e
/- quietus/history.True -/
def P11 : Pl := (.n none .z (.n none .z (.n none (.n none .z (.n none (.n (some [15, 14, 13, 5, 1]) (.n none .z (.n none .z (.n none (.n (some [15, 14, 13, 5, 1]) (.n none .z (.n none (.n none .z (.n none (.n (some [25, 24, 23, 15, 14, 13, 7, 5, 1]) (.n none .z (.n none .z (.n none (.n none (.n none .z (.n none (.r [[37, 32, 25, 24, 23, 15, 14, 13, 9, 7, 5, 1], [47, 39, 25, 24, 23, 15, 14, 13, 7, 5, 1]]) .z)) .z) .z))) .z) .z)) .z)) .z) .z))) .z) .z)) .z)))
def S11 (c : CV) (a0 a1 : AV) (h : AH) : R :=
pCall c (.fn 14 [] []) [a0, .nils] h fun v0 h1 =>
pCall c (.fn 8 [] []) [a1] h1 fun v2 h3 =>
pLenS v2 fun v4 =>
loopC (σ := AV × AV × AV × AV × AV × Unit) NN (fun i8 s5 h6 d7 =>
pInt .lss s5.1 s5.2.1 fun v9 =>
pCond v9 (
joinC (α := AV × AV × AV × AV × AV × Unit → AH → List Nat → R) (fun s10 h11 d12 =>
pInt .add s10.1 (.int .i64 (.ofNat 1)) fun v14 =>
i8 (v14, s10.2.1, s10.2.2.1, s10.2.2.2.1, s10.2.2.2.2.1, ()) h11 d12) fun j13 =>
pIdxS s5.2.2.1 s5.1 1 fun v15 =>
pLoad1 h6 v15 fun v16 =>
pIdxS s5.2.2.2.2.1 v16 14 fun v17 =>
pFieldA v17 10 fun v18 =>
pLoad1 h6 v18 fun v19 =>
pLenS v19 fun v20 =>
loopC (σ := AV × AV × AV × AV × AV × AV × AV × AV × AV × Unit) NN (fun i24 s21 h22 d23 =>
pInt .lss s21.1 s21.2.1 fun v25 =>
pCond v25 (
pIdxS s21.2.2.1 s21.1 2 fun v26 =>
pLoadN h22 v26 2 fun v27 =>
pBox h22 24 (.agg [(.int .i64 (.ofNat 0)), (.int .u64 (.ofNat 0))]) fun v28 h29 =>
pStore h29 v28 v27 2 fun h30 =>
pFieldA v28 0 fun v31 =>
pLoad1 h30 v31 fun v32 =>
pInt .lss v32 (.int .i64 (.ofNat 1)) fun v33 =>
joinC (α := AV × AV × AV × AV × AV × AV × AV × AV × AV × AV × AV × AV × Unit → AH → R) (fun s34 h35 =>
pPick s34.2.1 (.bool true) s34.1 fun v37 =>
joinC (α := AV × AV × AV × AV × AV × AV × AV × AV × AV × AV × AV × Unit → AH → R) (fun s38 h39 =>
pPick s38.2.1 (.bool true) s38.1 fun v41 =>
pCond v41 (
pLeave d23 h39 fun h42 =>
some ((.bool false), h42)) (
pInt .add s38.2.2.1 (.int .i64 (.ofNat 1)) fun v43 =>
i24 (v43, s38.2.2.2.1, s38.2.2.2.2.1, s38.2.2.2.2.2.1, s38.2.2.2.2.2.2.1, s38.2.2.2.2.2.2.2.1, s38.2.2.2.2.2.2.2.2.1, s38.2.2.2.2.2.2.2.2.2.1, s38.2.2.2.2.2.2.2.2.2.2.1, ()) h39 d23)) fun j40 =>
pWant v37 false (
pFieldA s34.2.2.2.2.2.2.2.2.1 0 fun v44 =>
pLoad1 h35 v44 fun v45 =>
pIdxS s34.2.2.2.2.2.2.2.2.2.2.1 v45 1 fun v46 =>
pLoad1 h35 v46 fun v47 =>
pFieldA s34.2.2.2.2.2.2.2.2.1 1 fun v48 =>
pLoad1 h35 v48 fun v49 =>
pInt .neq v47 v49 fun v50 =>
j40 (v50, v37, s34.2.2.1, s34.2.2.2.1, s34.2.2.2.2.1, s34.2.2.2.2.2.1, s34.2.2.2.2.2.2.1, s34.2.2.2.2.2.2.2.1, s34.2.2.2.2.2.2.2.2.2.1, s34.2.2.2.2.2.2.2.2.2.2.1, s34.2.2.2.2.2.2.2.2.2.2.2.1, ()) h35) (
j40 (.undef, v37, s34.2.2.1, s34.2.2.2.1, s34.2.2.2.2.1, s34.2.2.2.2.2.1, s34.2.2.2.2.2.2.1, s34.2.2.2.2.2.2.2.1, s34.2.2.2.2.2.2.2.2.2.1, s34.2.2.2.2.2.2.2.2.2.2.1, s34.2.2.2.2.2.2.2.2.2.2.2.1, ()) h35)) fun j36 =>
pWant v33 false (
pFieldA v28 0 fun v51 =>
pLoad1 h30 v51 fun v52 =>
pLenS s21.2.2.2.2.2.2.2.1 fun v53 =>
pInt .geq v52 v53 fun v54 =>
j36 (v54, v33, s21.1, s21.2.1, s21.2.2.1, s21.2.2.2.1, s21.2.2.2.2.1, s21.2.2.2.2.2.1, v28, s21.2.2.2.2.2.2.1, s21.2.2.2.2.2.2.2.1, s21.2.2.2.2.2.2.2.2.1, ()) h30) (
j36 (.undef, v33, s21.1, s21.2.1, s21.2.2.1, s21.2.2.2.1, s21.2.2.2.2.1, s21.2.2.2.2.2.1, v28, s21.2.2.2.2.2.2.1, s21.2.2.2.2.2.2.2.1, s21.2.2.2.2.2.2.2.2.1, ()) h30)) (
pIdxS s21.2.2.2.2.2.2.2.2.1 s21.2.2.2.2.2.2.1 14 fun v55 =>
pFieldA v55 4 fun v56 =>
pLoad1 h22 v56 fun v57 =>
pInt .eql v57 (.int .i64 (.ofNat 2)) fun v58 =>
pCond v58 (
pIdxS s21.2.2.2.2.2.2.2.2.1 s21.2.2.2.2.2.2.1 14 fun v59 =>
pFieldA v59 11 fun v60 =>
pLoad1 h22 v60 fun v61 =>
pCall c (.fn 14 [] []) [s21.2.2.2.2.2.2.2.1, v61] h22 fun v62 h63 =>
j13 (s21.2.2.2.1, s21.2.2.2.2.1, s21.2.2.2.2.2.1, v62, s21.2.2.2.2.2.2.2.2.1, ()) h63 d23) (
j13 (s21.2.2.2.1, s21.2.2.2.2.1, s21.2.2.2.2.2.1, s21.2.2.2.2.2.2.2.1, s21.2.2.2.2.2.2.2.2.1, ()) h22 d23))) ((.int .i64 (.ofNat 0)), v20, v19, s5.1, s5.2.1, s5.2.2.1, v16, s5.2.2.2.1, s5.2.2.2.2.1, ()) h6 d7) (
pLeave d7 h6 fun h64 =>
some ((.bool true), h64))) ((.int .i64 (.ofNat 0)), v4, v2, v0, a1, ()) h3 []
theorem S11_eq (c : CV) (a0 a1 : AV) (h : AH) : enterK Try.prog NN P11 c 11 [a0, a1] h = S11 c a0 a1 h := by kernel_rfl
def W11 (c : CV) (l : List AV) (h : AH) : R := match l with | [a0, a1] => S11 c a0 a1 h | _ => none
theorem W11_ok : WOk Try.prog 11 W11 := by
  intro c l h r e
  unfold W11 at e
  split at e
  · exact ⟨P11, by rw [S11_eq]; exact e⟩
  · cases e
/- quietus/quietuslaw29.attempts -/
def P12 : Pl := (.n none .z (.n none .z (.n none (.n none .z (.n none (.n (some [6, 5, 1, 0]) (.n none (.n none (.r [[18, 16, 6, 5, 1, 0]]) .z) (.n none (.n none (.n none .z (.n (some [7, 6, 5, 1, 0]) (.n none .z (.n none (.r [[7, 6, 5, 1, 0]]) .z)) (.n none (.n none .z (.n none (.n (some [8, 7, 6, 5, 1, 0]) (.n none (.n none (.r [[71, 69, 8, 7, 6, 5, 1, 0]]) .z) (.n none (.n none (.n none .z (.n (some [9, 8, 7, 6, 5, 1, 0]) (.n none .z (.n none (.r [[9, 8, 7, 6, 5, 1, 0]]) .z)) .z)) .z) .z)) .z) .z)) (.n none (.n none .z (.n none (.n (some [10, 7, 6, 5, 1, 0]) (.n none (.n none (.r [[108, 106, 10, 7, 6, 5, 1, 0]]) .z) (.n none (.n none (.n none .z (.n (some [11, 10, 7, 6, 5, 1, 0]) (.n none .z (.n none (.r [[11, 10, 7, 6, 5, 1, 0]]) .z)) .z)) .z) .z)) .z) .z)) .z)))) .z) .z)) .z) .z)) .z)))
def S12 (c : CV) (a0 a1 : AV) (h : AH) : R :=
loopC (σ := AV × AV × AV × AV × Unit) NN (fun i3 s0 h1 d2 =>
pLenS s0.2.2.2.1 fun v4 =>
pInt .lss s0.1 v4 fun v5 =>
joinC (α := AV × AV × AV × AV × AV × AV × Unit → AH → R) (fun s6 h7 =>
pPick s6.2.1 s6.1 (.bool false) fun v9 =>
pCond v9 (
pIdxS s6.2.2.2.2.2.1 s6.2.2.1 6 fun v10 =>
pFieldA v10 0 fun v11 =>
pLoad1 h7 v11 fun v12 =>
pIdxS s6.2.2.2.2.2.1 s6.2.2.1 6 fun v13 =>
pFieldA v13 1 fun v14 =>
pLoad1 h7 v14 fun v15 =>
pIdxS s6.2.2.2.2.2.1 s6.2.2.1 6 fun v16 =>
pFieldA v16 2 fun v17 =>
pLoad1 h7 v17 fun v18 =>
pIdxS s6.2.2.2.2.2.1 s6.2.2.1 6 fun v19 =>
pFieldA v19 3 fun v20 =>
pLoad1 h7 v20 fun v21 =>
pBuild [(.int .i64 (.ofNat 0)), (.int .i64 (.ofNat 0)), (.int .i64 (.ofNat 0)), (.bool false), (.int .i64 (.ofNat 0)), (.int .i64 (.ofNat 0)), (.int .u64 (.ofNat 0)), (.int .u64 (.ofNat 0)), (.int .i64 (.ofNat 0)), (.int .i64 (.ofNat 0)), .nils, .nils, .nils, (.str [])] [(4, 1, v12), (8, 1, v15), (9, 1, v18), (7, 1, v21)] fun v22 =>
pBox h7 29 (.agg [(.int .i64 (.ofNat 0)), (.int .i64 (.ofNat 0)), (.int .i64 (.ofNat 0)), (.bool false), (.int .i64 (.ofNat 0)), (.int .i64 (.ofNat 0)), (.int .u64 (.ofNat 0)), (.int .u64 (.ofNat 0)), (.int .i64 (.ofNat 0)), (.int .i64 (.ofNat 0)), .nils, .nils, .nils, (.str [])]) fun v23 h24 =>
pStore h24 v23 v22 14 fun h25 =>
joinC (α := AV × AV × AV × AV × AV × Unit → AH → List Nat → R) (fun s26 h27 d28 =>
loopC (σ := AV × AV × AV × AV × AV × AV × Unit) NN (fun i33 s30 h31 d32 =>
pIdxS s30.2.2.2.2.2.1 s30.2.2.1 6 fun v34 =>
pFieldA v34 4 fun v35 =>
pLoad1 h31 v35 fun v36 =>
pLenS v36 fun v37 =>
pInt .lss s30.1 v37 fun v38 =>
joinC (α := AV × AV × AV × AV × AV × AV × AV × AV × Unit → AH → R) (fun s39 h40 =>
pPick s39.2.1 s39.1 (.bool false) fun v42 =>
pCond v42 (
pIdxS s39.2.2.2.2.2.2.2.1 s39.2.2.2.2.1 6 fun v43 =>
pFieldA v43 4 fun v44 =>
pLoad1 h40 v44 fun v45 =>
pIdxS v45 s39.2.2.1 2 fun v46 =>
pLoadN h40 v46 2 fun v47 =>
pBox h40 24 (.agg [(.int .i64 (.ofNat 0)), (.int .u64 (.ofNat 0))]) fun v48 h49 =>
pStore h49 v48 v47 2 fun h50 =>
joinC (α := AV × AV × AV × AV × AV × AV × AV × Unit → AH → List Nat → R) (fun s51 h52 d53 =>
pFieldA s51.2.2.1 10 fun v55 =>
pLoad1 h52 v55 fun v56 =>
pLoadN h52 s51.1 2 fun v57 =>
pBuildS h52 24 [(.int .i64 (.ofNat 0)), (.int .u64 (.ofNat 0))] 1 [(0, 2, v57)] fun v58 h59 =>
pAppend h59 24 2 v56 v58 fun v60 h61 =>
pFieldA s51.2.2.1 10 fun v62 =>
pStore h61 v62 v60 1 fun h63 =>
pInt .add s51.2.1 (.int .i64 (.ofNat 1)) fun v64 =>
i33 (v64, s51.2.2.1, s51.2.2.2.1, s51.2.2.2.2.1, s51.2.2.2.2.2.1, s51.2.2.2.2.2.2.1, ()) h63 d53) fun j54 =>
pUn .not s39.2.2.2.2.2.2.1 fun v65 =>
pCond v65 (
joinC (α := AV × AV × AV × AV × AV × AV × AV × Unit → AH → R) (fun s66 h67 =>
j54 (s66.1, s66.2.1, s66.2.2.1, s66.2.2.2.1, s66.2.2.2.2.1, s66.2.2.2.2.2.1, s66.2.2.2.2.2.2.1, ()) h67 d32) fun j68 =>
pFieldA v48 0 fun v69 =>
pLoad1 h50 v69 fun v70 =>
pCall c (.fn 18 [] []) [v70, (.int .i64 (.ofNat 1)), (.int .i64 (.ofNat 5))] h50 fun v71 h72 =>
pFieldA v48 1 fun v73 =>
pLoad1 h72 v73 fun v74 =>
pInt .rem v74 (.int .u64 (.ofNat 2)) fun v75 =>
pBuild [(.int .i64 (.ofNat 0)), (.int .u64 (.ofNat 0))] [(0, 1, v71), (1, 1, v75)] fun v76 =>
pStore h72 v48 v76 2 fun h77 =>
pChk v73 none v74 h50 h72 h50.nx <|
j68 (v48, s39.2.2.1, s39.2.2.2.1, s39.2.2.2.2.1, s39.2.2.2.2.2.1, s39.2.2.2.2.2.2.1, s39.2.2.2.2.2.2.2.1, ()) h77) (
j54 (v48, s39.2.2.1, s39.2.2.2.1, s39.2.2.2.2.1, s39.2.2.2.2.2.1, s39.2.2.2.2.2.2.1, s39.2.2.2.2.2.2.2.1, ()) h50 d32)) (
loopC (σ := AV × AV × AV × AV × AV × AV × Unit) NN (fun i81 s78 h79 d80 =>
pIdxS s78.2.2.2.2.2.1 s78.2.2.1 6 fun v82 =>
pFieldA v82 5 fun v83 =>
pLoad1 h79 v83 fun v84 =>
pLenS v84 fun v85 =>
pInt .lss s78.1 v85 fun v86 =>
joinC (α := AV × AV × AV × AV × AV × AV × AV × AV × Unit → AH → R) (fun s87 h88 =>
pPick s87.2.1 s87.1 (.bool false) fun v90 =>
pCond v90 (
pIdxS s87.2.2.2.2.2.2.2.1 s87.2.2.2.2.1 6 fun v91 =>
pFieldA v91 5 fun v92 =>
pLoad1 h88 v92 fun v93 =>
pIdxS v93 s87.2.2.1 2 fun v94 =>
pLoadN h88 v94 2 fun v95 =>
pBox h88 24 (.agg [(.int .i64 (.ofNat 0)), (.int .u64 (.ofNat 0))]) fun v96 h97 =>
pStore h97 v96 v95 2 fun h98 =>
joinC (α := AV × AV × AV × AV × AV × AV × AV × Unit → AH → List Nat → R) (fun s99 h100 d101 =>
pFieldA s99.2.2.1 11 fun v103 =>
pLoad1 h100 v103 fun v104 =>
pLoadN h100 s99.1 2 fun v105 =>
pBuildS h100 24 [(.int .i64 (.ofNat 0)), (.int .u64 (.ofNat 0))] 1 [(0, 2, v105)] fun v106 h107 =>
pAppend h107 24 2 v104 v106 fun v108 h109 =>
pFieldA s99.2.2.1 11 fun v110 =>
pStore h109 v110 v108 1 fun h111 =>
pInt .add s99.2.1 (.int .i64 (.ofNat 1)) fun v112 =>
i81 (v112, s99.2.2.1, s99.2.2.2.1, s99.2.2.2.2.1, s99.2.2.2.2.2.1, s99.2.2.2.2.2.2.1, ()) h111 d101) fun j102 =>
pUn .not s87.2.2.2.2.2.2.1 fun v113 =>
pCond v113 (
joinC (α := AV × AV × AV × AV × AV × AV × AV × Unit → AH → R) (fun s114 h115 =>
j102 (s114.1, s114.2.1, s114.2.2.1, s114.2.2.2.1, s114.2.2.2.2.1, s114.2.2.2.2.2.1, s114.2.2.2.2.2.2.1, ()) h115 d80) fun j116 =>
pFieldA v96 0 fun v117 =>
pLoad1 h98 v117 fun v118 =>
pCall c (.fn 18 [] []) [v118, (.int .i64 (.ofNat 1)), (.int .i64 (.ofNat 5))] h98 fun v119 h120 =>
pFieldA v96 1 fun v121 =>
pLoad1 h120 v121 fun v122 =>
pInt .rem v122 (.int .u64 (.ofNat 2)) fun v123 =>
pBuild [(.int .i64 (.ofNat 0)), (.int .u64 (.ofNat 0))] [(0, 1, v119), (1, 1, v123)] fun v124 =>
pStore h120 v96 v124 2 fun h125 =>
pChk v121 none v122 h98 h120 h98.nx <|
j116 (v96, s87.2.2.1, s87.2.2.2.1, s87.2.2.2.2.1, s87.2.2.2.2.2.1, s87.2.2.2.2.2.2.1, s87.2.2.2.2.2.2.2.1, ()) h125) (
j102 (v96, s87.2.2.1, s87.2.2.2.1, s87.2.2.2.2.1, s87.2.2.2.2.2.1, s87.2.2.2.2.2.2.1, s87.2.2.2.2.2.2.2.1, ()) h98 d80)) (
pLoadN h88 s87.2.2.2.1 14 fun v126 =>
pBuildS h88 29 [(.int .i64 (.ofNat 0)), (.int .i64 (.ofNat 0)), (.int .i64 (.ofNat 0)), (.bool false), (.int .i64 (.ofNat 0)), (.int .i64 (.ofNat 0)), (.int .u64 (.ofNat 0)), (.int .u64 (.ofNat 0)), (.int .i64 (.ofNat 0)), (.int .i64 (.ofNat 0)), .nils, .nils, .nils, (.str [])] 1 [(0, 14, v126)] fun v127 h128 =>
pAppend h128 29 14 s87.2.2.2.2.2.1 v127 fun v129 h130 =>
pInt .add s87.2.2.2.2.1 (.int .i64 (.ofNat 1)) fun v131 =>
i3 (v131, v129, s87.2.2.2.2.2.2.1, s87.2.2.2.2.2.2.2.1, ()) h130 d80)) fun j89 =>
pWant v86 true (
pInt .lss s78.1 (.int .i64 (.ofNat 4)) fun v132 =>
j89 (v132, v86, s78.1, s78.2.1, s78.2.2.1, s78.2.2.2.1, s78.2.2.2.2.1, s78.2.2.2.2.2.1, ()) h79) (
j89 (.undef, v86, s78.1, s78.2.1, s78.2.2.1, s78.2.2.2.1, s78.2.2.2.2.1, s78.2.2.2.2.2.1, ()) h79)) ((.int .i64 (.ofNat 0)), s39.2.2.2.1, s39.2.2.2.2.1, s39.2.2.2.2.2.1, s39.2.2.2.2.2.2.1, s39.2.2.2.2.2.2.2.1, ()) h40 d32)) fun j41 =>
pWant v38 true (
pInt .lss s30.1 (.int .i64 (.ofNat 4)) fun v133 =>
j41 (v133, v38, s30.1, s30.2.1, s30.2.2.1, s30.2.2.2.1, s30.2.2.2.2.1, s30.2.2.2.2.2.1, ()) h31) (
j41 (.undef, v38, s30.1, s30.2.1, s30.2.2.1, s30.2.2.2.1, s30.2.2.2.2.1, s30.2.2.2.2.2.1, ()) h31)) ((.int .i64 (.ofNat 0)), s26.1, s26.2.1, s26.2.2.1, s26.2.2.2.1, s26.2.2.2.2.1, ()) h27 d28) fun j29 =>
pUn .not s6.2.2.2.2.1 fun v134 =>
pCond v134 (
joinC (α := AV × AV × AV × AV × AV × Unit → AH → R) (fun s135 h136 =>
j29 (s135.1, s135.2.1, s135.2.2.1, s135.2.2.2.1, s135.2.2.2.2.1, ()) h136 d2) fun j137 =>
pFieldA v23 4 fun v138 =>
pLoad1 h25 v138 fun v139 =>
pCall c (.fn 18 [] []) [v139, (.int .i64 (.ofNat 0)), (.int .i64 (.ofNat 6))] h25 fun v140 h141 =>
pFieldA v23 8 fun v142 =>
pLoad1 h141 v142 fun v143 =>
pCall c (.fn 18 [] []) [v143, (.int .i64 (.ofNat 0)), (.int .i64 (.ofNat 12))] h141 fun v144 h145 =>
pFieldA v23 9 fun v146 =>
pLoad1 h145 v146 fun v147 =>
pCall c (.fn 18 [] []) [v147, (.int .i64 (.ofNat 0)), (.int .i64 (.ofNat 14))] h145 fun v148 h149 =>
pFieldA v23 7 fun v150 =>
pLoad1 h149 v150 fun v151 =>
pInt .rem v151 (.int .u64 (.ofNat 4)) fun v152 =>
pFieldA v23 4 fun v153 =>
pStore h149 v153 v140 1 fun h154 =>
pFieldA v23 8 fun v155 =>
pStore h154 v155 v144 1 fun h156 =>
pFieldA v23 9 fun v157 =>
pStore h156 v157 v148 1 fun h158 =>
pFieldA v23 7 fun v159 =>
pStore h158 v159 v152 1 fun h160 =>
pChk v150 none v151 h145 h149 h25.nx <|
pChk v150 none v151 h141 h145 h25.nx <|
pChk v150 none v151 h25 h141 h25.nx <|
pChk v146 none v147 h141 h145 h25.nx <|
pChk v146 none v147 h25 h141 h25.nx <|
pChk v142 none v143 h25 h141 h25.nx <|
j137 (v23, s6.2.2.1, s6.2.2.2.1, s6.2.2.2.2.1, s6.2.2.2.2.2.1, ()) h160) (
j29 (v23, s6.2.2.1, s6.2.2.2.1, s6.2.2.2.2.1, s6.2.2.2.2.2.1, ()) h25 d2)) (
pLeave d2 h7 fun h161 =>
some (s6.2.2.2.1, h161))) fun j8 =>
pWant v5 true (
pInt .lss s0.1 (.int .i64 (.ofNat 20)) fun v162 =>
j8 (v162, v5, s0.1, s0.2.1, s0.2.2.1, s0.2.2.2.1, ()) h1) (
j8 (.undef, v5, s0.1, s0.2.1, s0.2.2.1, s0.2.2.2.1, ()) h1)) ((.int .i64 (.ofNat 0)), .nils, a1, a0, ()) h []
theorem S12_eq (c : CV) (a0 a1 : AV) (h : AH) : enterK Try.prog NN P12 c 12 [a0, a1] h = S12 c a0 a1 h := by kernel_rfl
def W12 (c : CV) (l : List AV) (h : AH) : R := match l with | [a0, a1] => S12 c a0 a1 h | _ => none
theorem W12_ok : WOk Try.prog 12 W12 := by
  intro c l h r e
  unfold W12 at e
  split at e
  · exact ⟨P12, by rw [S12_eq]; exact e⟩
  · cases e
/- quietus/quietusbook.Same[uint64] -/
def P13 : Pl := (.n none .z (.n none .z (.n none (.n none .z (.n none (.n (some [5, 1, 0]) .z .z) .z)) .z)))
def S13 (_ : CV) (a0 a1 : AV) (h : AH) : R :=
pLenS a0 fun v0 =>
pLenS a1 fun v1 =>
pInt .neq v0 v1 fun v2 =>
pCond v2 (
some ((.bool false), h)) (
loopC (σ := AV × AV × AV × Unit) NN (fun i6 s3 h4 d5 =>
pLenS s3.2.2.1 fun v7 =>
pInt .lss s3.1 v7 fun v8 =>
pCond v8 (
pIdxS s3.2.2.1 s3.1 1 fun v9 =>
pLoad1 h4 v9 fun v10 =>
pIdxS s3.2.1 s3.1 1 fun v11 =>
pLoad1 h4 v11 fun v12 =>
pInt .neq v10 v12 fun v13 =>
pCond v13 (
pLeave d5 h4 fun h14 =>
some ((.bool false), h14)) (
pInt .add s3.1 (.int .i64 (.ofNat 1)) fun v15 =>
i6 (v15, s3.2.1, s3.2.2.1, ()) h4 d5)) (
pLeave d5 h4 fun h16 =>
some ((.bool true), h16))) ((.int .i64 (.ofNat 0)), a1, a0, ()) h [])
theorem S13_eq (c : CV) (a0 a1 : AV) (h : AH) : enterK Try.prog NN P13 c 13 [a0, a1] h = S13 c a0 a1 h := by kernel_rfl
def W13 (c : CV) (l : List AV) (h : AH) : R := match l with | [a0, a1] => S13 c a0 a1 h | _ => none
theorem W13_ok : WOk Try.prog 13 W13 := by
  intro c l h r e
  unfold W13 at e
  split at e
  · exact ⟨P13, by rw [S13_eq]; exact e⟩
  · cases e
/- quietus/model.Apply -/
def P14 : Pl := (.n none .z (.n none .z (.n none .z (.n none (.n none .z (.n none (.n (some [23, 22, 21, 5]) (.n none .z (.n none .z (.n none (.n (some [23, 22, 21, 5]) (.n none .z (.n none (.r [[35, 30, 23, 22, 21, 7, 5]]) .z)) .z) .z))) .z) .z)) .z))))
def S14 (_ : CV) (a0 a1 : AV) (h : AH) : R :=
pLenS a0 fun v0 =>
pMM false [v0, (.int .i64 (.ofNat 256))] fun v1 =>
pMM true [(.int .i64 (.ofNat 32)), v1] fun v2 =>
pMake h 22 [(.int .u64 (.ofNat 0))] v2 v2 fun v3 h4 =>
pSlice h4 22 1 v3 (some (.int .i64 (.ofNat 1))) none fun v5 =>
pLenS a0 fun v6 =>
pMM false [(.int .i64 (.ofNat 1)), v6] fun v7 =>
pSlice h4 22 1 a0 (some v7) none fun v8 =>
pCopy h4 1 v5 v8 fun _ h10 =>
pLenS a1 fun v11 =>
loopC (σ := AV × AV × AV × AV × Unit) NN (fun i15 s12 h13 d14 =>
pInt .lss s12.1 s12.2.1 fun v16 =>
pCond v16 (
joinC (α := AV × AV × AV × AV × Unit → AH → List Nat → R) (fun s17 h18 d19 =>
pInt .add s17.1 (.int .i64 (.ofNat 1)) fun v21 =>
i15 (v21, s17.2.1, s17.2.2.1, s17.2.2.2.1, ()) h18 d19) fun j20 =>
pIdxS s12.2.2.1 s12.1 2 fun v22 =>
pLoadN h13 v22 2 fun v23 =>
pBox h13 24 (.agg [(.int .i64 (.ofNat 0)), (.int .u64 (.ofNat 0))]) fun v24 h25 =>
pStore h25 v24 v23 2 fun h26 =>
pFieldA v24 0 fun v27 =>
pLoad1 h26 v27 fun v28 =>
pInt .geq v28 (.int .i64 (.ofNat 1)) fun v29 =>
joinC (α := AV × AV × AV × AV × AV × AV × AV × Unit → AH → R) (fun s30 h31 =>
pPick s30.2.1 s30.1 (.bool false) fun v33 =>
pCond v33 (
pFieldA s30.2.2.2.2.2.1 0 fun v34 =>
pLoad1 h31 v34 fun v35 =>
pFieldA s30.2.2.2.2.2.1 1 fun v36 =>
pLoad1 h31 v36 fun v37 =>
pIdxS s30.2.2.2.2.2.2.1 v35 1 fun v38 =>
pStore h31 v38 v37 1 fun h39 =>
j20 (s30.2.2.1, s30.2.2.2.1, s30.2.2.2.2.1, s30.2.2.2.2.2.2.1, ()) h39 d14) (
j20 (s30.2.2.1, s30.2.2.2.1, s30.2.2.2.2.1, s30.2.2.2.2.2.2.1, ()) h31 d14)) fun j32 =>
pWant v29 true (
pFieldA v24 0 fun v40 =>
pLoad1 h26 v40 fun v41 =>
pLenS s12.2.2.2.1 fun v42 =>
pInt .lss v41 v42 fun v43 =>
j32 (v43, v29, s12.1, s12.2.1, s12.2.2.1, v24, s12.2.2.2.1, ()) h26) (
j32 (.undef, v29, s12.1, s12.2.1, s12.2.2.1, v24, s12.2.2.2.1, ()) h26)) (
pLeave d14 h13 fun h44 =>
some (s12.2.2.2.1, h44))) ((.int .i64 (.ofNat 0)), v11, a1, v3, ()) h10 []
theorem S14_eq (c : CV) (a0 a1 : AV) (h : AH) : enterK Try.prog NN P14 c 14 [a0, a1] h = S14 c a0 a1 h := by kernel_rfl
def W14 (c : CV) (l : List AV) (h : AH) : R := match l with | [a0, a1] => S14 c a0 a1 h | _ => none
theorem W14_ok : WOk Try.prog 14 W14 := by
  intro c l h r e
  unfold W14 at e
  split at e
  · exact ⟨P14, by rw [S14_eq]; exact e⟩
  · cases e
/- slices.SortStableFunc[[]int,int] -/
def P15 : Pl := .z
def S15 (c : CV) (a0 a1 : AV) (h : AH) : R :=
pLenS a0 fun v0 =>
pCall c (.fn 19 [] []) [a0, v0, a1] h fun _ h2 =>
some ((.tup []), h2)
theorem S15_eq (c : CV) (a0 a1 : AV) (h : AH) : enterK Try.prog NN P15 c 15 [a0, a1] h = S15 c a0 a1 h := by kernel_rfl
def W15 (c : CV) (l : List AV) (h : AH) : R := match l with | [a0, a1] => S15 c a0 a1 h | _ => none
theorem W15_ok : WOk Try.prog 15 W15 := by
  intro c l h r e
  unfold W15 at e
  split at e
  · exact ⟨P15, by rw [S15_eq]; exact e⟩
  · cases e
/- quietus/history.Order$1 -/
def P16 : Pl := .z
def S16 (c : CV) (a0 a1 a2 : AV) (h : AH) : R :=
pLoad1 h a2 fun v0 =>
pIdxS v0 a0 14 fun v1 =>
pLoadN h v1 14 fun v2 =>
pLoad1 h a2 fun v3 =>
pIdxS v3 a1 14 fun v4 =>
pLoadN h v4 14 fun v5 =>
pCall c (.fn 9 [] []) [v2, v5] h fun v6 h7 =>
pCond v6 (
some ((.int .i64 (.negSucc 0)), h7)) (
pLoad1 h7 a2 fun v8 =>
pIdxS v8 a1 14 fun v9 =>
pLoadN h7 v9 14 fun v10 =>
pLoad1 h7 a2 fun v11 =>
pIdxS v11 a0 14 fun v12 =>
pLoadN h7 v12 14 fun v13 =>
pCall c (.fn 9 [] []) [v10, v13] h7 fun v14 h15 =>
pCond v14 (
some ((.int .i64 (.ofNat 1)), h15)) (
some ((.int .i64 (.ofNat 0)), h15)))
theorem S16_eq (c : CV) (a0 a1 a2 : AV) (h : AH) : enterK Try.prog NN P16 c 16 [a0, a1, a2] h = S16 c a0 a1 a2 h := by kernel_rfl
def W16 (c : CV) (l : List AV) (h : AH) : R := match l with | [a0, a1, a2] => S16 c a0 a1 a2 h | _ => none
theorem W16_ok : WOk Try.prog 16 W16 := by
  intro c l h r e
  unfold W16 at e
  split at e
  · exact ⟨P16, by rw [S16_eq]; exact e⟩
  · cases e
/- quietus/history.wrote -/
def P17 : Pl := (.n none .z (.n none (.r [[10, 6]]) .z))
def S17 (_ : CV) (a0 : AV) (h : AH) : R :=
pBox h 29 a0 fun v0 h1 =>
pFieldA v0 4 fun v2 =>
pLoad1 h1 v2 fun v3 =>
pInt .eql v3 (.int .i64 (.ofNat 2)) fun v4 =>
joinC (α := AV × AV × Unit → AH → R) (fun s5 h6 =>
pPick s5.2.1 s5.1 (.bool false) fun v8 =>
some (v8, h6)) fun j7 =>
pWant v4 true (
pFieldA v0 11 fun v9 =>
pLoad1 h1 v9 fun v10 =>
pLenS v10 fun v11 =>
pInt .gtr v11 (.int .i64 (.ofNat 0)) fun v12 =>
j7 (v12, v4, ()) h1) (
j7 (.undef, v4, ()) h1)
theorem S17_eq (c : CV) (a0 : AV) (h : AH) : enterK Try.prog NN P17 c 17 [a0] h = S17 c a0 h := by kernel_rfl
def W17 (c : CV) (l : List AV) (h : AH) : R := match l with | [a0] => S17 c a0 h | _ => none
theorem W17_ok : WOk Try.prog 17 W17 := by
  intro c l h r e
  unfold W17 at e
  split at e
  · exact ⟨P17, by rw [S17_eq]; exact e⟩
  · cases e
/- quietus/quietusbook.Within -/
def P18 : Pl := (.n none .z (.n none .z (.n (some [1, 0]) .z .z)))
def S18 (_ : CV) (a0 a1 a2 : AV) (h : AH) : R :=
pInt .sub a2 a1 fun v0 =>
pInt .add v0 (.int .i64 (.ofNat 1)) fun v1 =>
pInt .rem a0 v1 fun v2 =>
joinC (α := AV × AV × Unit → AH → List Nat → R) (fun s3 h4 d5 =>
pInt .add s3.1 s3.2.1 fun v7 =>
pLeave d5 h4 fun h8 =>
some (v7, h8)) fun j6 =>
pInt .lss v2 (.int .i64 (.ofNat 0)) fun v9 =>
pCond v9 (
pInt .add v2 a2 fun v10 =>
pInt .sub v10 a1 fun v11 =>
pInt .add v11 (.int .i64 (.ofNat 1)) fun v12 =>
j6 (a1, v12, ()) h []) (
j6 (a1, v2, ()) h [])
theorem S18_eq (c : CV) (a0 a1 a2 : AV) (h : AH) : enterK Try.prog NN P18 c 18 [a0, a1, a2] h = S18 c a0 a1 a2 h := by kernel_rfl
def W18 (c : CV) (l : List AV) (h : AH) : R := match l with | [a0, a1, a2] => S18 c a0 a1 a2 h | _ => none
theorem W18_ok : WOk Try.prog 18 W18 := by
  intro c l h r e
  unfold W18 at e
  split at e
  · exact ⟨P18, by rw [S18_eq]; exact e⟩
  · cases e
/- slices.stableCmpFunc[int] -/
def P19 : Pl := (.n none .z (.n none .z (.n none (.n none (.n (some [8, 7, 6, 2, 1, 0]) .z .z) .z) (.n none .z (.n none (.n (some [6, 2, 1, 0]) (.n none .z (.n none (.n none .z (.n none (.n none (.n (some [8, 7, 6, 2, 1, 0]) .z .z) .z) (.n (some [6, 2, 1, 0]) .z .z))) .z)) .z) .z)))))
def S19 (c : CV) (a0 a1 a2 : AV) (h : AH) : R :=
loopC (σ := AV × AV × AV × AV × AV × AV × Unit) NN (fun i3 s0 h1 d2 =>
pInt .leq s0.1 s0.2.2.2.2.1 fun v4 =>
pCond v4 (
pCall c (.fn 20 [] []) [s0.2.2.2.2.2.1, s0.2.1, s0.1, s0.2.2.2.1] h1 fun _ h6 =>
pInt .add s0.1 s0.2.2.1 fun v7 =>
i3 (v7, s0.1, s0.2.2.1, s0.2.2.2.1, s0.2.2.2.2.1, s0.2.2.2.2.2.1, ()) h6 d2) (
pCall c (.fn 20 [] []) [s0.2.2.2.2.2.1, s0.2.1, s0.2.2.2.2.1, s0.2.2.2.1] h1 fun _ h9 =>
loopC (σ := AV × AV × AV × AV × Unit) NN (fun i13 s10 h11 d12 =>
pInt .lss s10.1 s10.2.2.1 fun v14 =>
pCond v14 (
pInt .mul (.int .i64 (.ofNat 2)) s10.1 fun v15 =>
loopC (σ := AV × AV × AV × AV × AV × AV × Unit) NN (fun i19 s16 h17 d18 =>
pInt .leq s16.1 s16.2.2.2.2.1 fun v20 =>
pCond v20 (
pInt .add s16.2.1 s16.2.2.1 fun v21 =>
pCall c (.fn 21 [] []) [s16.2.2.2.2.2.1, s16.2.1, v21, s16.1, s16.2.2.2.1] h17 fun _ h23 =>
pInt .mul (.int .i64 (.ofNat 2)) s16.2.2.1 fun v24 =>
pInt .add s16.1 v24 fun v25 =>
i19 (v25, s16.1, s16.2.2.1, s16.2.2.2.1, s16.2.2.2.2.1, s16.2.2.2.2.2.1, ()) h23 d18) (
joinC (α := AV × AV × AV × AV × Unit → AH → List Nat → R) (fun s26 h27 d28 =>
pInt .mul s26.1 (.int .i64 (.ofNat 2)) fun v30 =>
i13 (v30, s26.2.1, s26.2.2.1, s26.2.2.2.1, ()) h27 d28) fun j29 =>
pInt .add s16.2.1 s16.2.2.1 fun v31 =>
pInt .lss v31 s16.2.2.2.2.1 fun v32 =>
pCond v32 (
pCall c (.fn 21 [] []) [s16.2.2.2.2.2.1, s16.2.1, v31, s16.2.2.2.2.1, s16.2.2.2.1] h17 fun _ h34 =>
j29 (s16.2.2.1, s16.2.2.2.1, s16.2.2.2.2.1, s16.2.2.2.2.2.1, ()) h34 d18) (
j29 (s16.2.2.1, s16.2.2.2.1, s16.2.2.2.2.1, s16.2.2.2.2.2.1, ()) h17 d18))) (v15, (.int .i64 (.ofNat 0)), s10.1, s10.2.1, s10.2.2.1, s10.2.2.2.1, ()) h11 d12) (
pLeave d12 h11 fun h35 =>
some ((.tup []), h35))) (s0.2.2.1, s0.2.2.2.1, s0.2.2.2.2.1, s0.2.2.2.2.2.1, ()) h9 d2)) ((.int .i64 (.ofNat 20)), (.int .i64 (.ofNat 0)), (.int .i64 (.ofNat 20)), a2, a1, a0, ()) h []
theorem S19_eq (c : CV) (a0 a1 a2 : AV) (h : AH) : enterK Try.prog NN P19 c 19 [a0, a1, a2] h = S19 c a0 a1 a2 h := by kernel_rfl
def W19 (c : CV) (l : List AV) (h : AH) : R := match l with | [a0, a1, a2] => S19 c a0 a1 a2 h | _ => none
theorem W19_ok : WOk Try.prog 19 W19 := by
  intro c l h r e
  unfold W19 at e
  split at e
  · exact ⟨P19, by rw [S19_eq]; exact e⟩
  · cases e
/- slices.insertionSortCmpFunc[int] -/
def P20 : Pl := (.n none .z (.n none (.n (some [8, 3, 2, 1, 0]) (.n none .z (.n none (.n none (.n none .z (.n none (.n (some [9, 8, 3, 2, 1, 0]) (.n none (.n none (.r [[33, 21, 9, 8, 3, 2, 1, 0]]) .z) .z) .z) .z)) .z) .z)) .z) .z))
def S20 (c : CV) (a0 a1 a2 a3 : AV) (h : AH) : R :=
pInt .add a1 (.int .i64 (.ofNat 1)) fun v0 =>
loopC (σ := AV × AV × AV × AV × AV × Unit) NN (fun i4 s1 h2 d3 =>
pInt .lss s1.1 s1.2.2.1 fun v5 =>
pCond v5 (
loopC (σ := AV × AV × AV × AV × AV × AV × Unit) NN (fun i9 s6 h7 d8 =>
pInt .gtr s6.1 s6.2.2.2.2.1 fun v10 =>
joinC (α := AV × AV × AV × AV × AV × AV × AV × AV × Unit → AH → R) (fun s11 h12 =>
pPick s11.2.1 s11.1 (.bool false) fun v14 =>
pCond v14 (
pInt .sub s11.2.2.1 (.int .i64 (.ofNat 1)) fun v15 =>
pInt .sub s11.2.2.1 (.int .i64 (.ofNat 1)) fun v16 =>
pIdxS s11.2.2.2.2.2.2.2.1 v16 1 fun v17 =>
pLoad1 h12 v17 fun v18 =>
pIdxS s11.2.2.2.2.2.2.2.1 s11.2.2.1 1 fun v19 =>
pLoad1 h12 v19 fun v20 =>
pIdxS s11.2.2.2.2.2.2.2.1 s11.2.2.1 1 fun v21 =>
pStore h12 v21 v18 1 fun h22 =>
pIdxS s11.2.2.2.2.2.2.2.1 v15 1 fun v23 =>
pStore h22 v23 v20 1 fun h24 =>
pInt .sub s11.2.2.1 (.int .i64 (.ofNat 1)) fun v25 =>
i9 (v25, s11.2.2.2.1, s11.2.2.2.2.1, s11.2.2.2.2.2.1, s11.2.2.2.2.2.2.1, s11.2.2.2.2.2.2.2.1, ()) h24 d8) (
pInt .add s11.2.2.2.1 (.int .i64 (.ofNat 1)) fun v26 =>
i4 (v26, s11.2.2.2.2.1, s11.2.2.2.2.2.1, s11.2.2.2.2.2.2.1, s11.2.2.2.2.2.2.2.1, ()) h12 d8)) fun j13 =>
pWant v10 true (
pIdxS s6.2.2.2.2.2.1 s6.1 1 fun v27 =>
pLoad1 h7 v27 fun v28 =>
pInt .sub s6.1 (.int .i64 (.ofNat 1)) fun v29 =>
pIdxS s6.2.2.2.2.2.1 v29 1 fun v30 =>
pLoad1 h7 v30 fun v31 =>
pCall c s6.2.2.1 [v28, v31] h7 fun v32 h33 =>
pInt .lss v32 (.int .i64 (.ofNat 0)) fun v34 =>
j13 (v34, v10, s6.1, s6.2.1, s6.2.2.1, s6.2.2.2.1, s6.2.2.2.2.1, s6.2.2.2.2.2.1, ()) h33) (
j13 (.undef, v10, s6.1, s6.2.1, s6.2.2.1, s6.2.2.2.1, s6.2.2.2.2.1, s6.2.2.2.2.2.1, ()) h7)) (s1.1, s1.1, s1.2.1, s1.2.2.1, s1.2.2.2.1, s1.2.2.2.2.1, ()) h2 d3) (
pLeave d3 h2 fun h35 =>
some ((.tup []), h35))) (v0, a3, a2, a1, a0, ()) h []
theorem S20_eq (c : CV) (a0 a1 a2 a3 : AV) (h : AH) : enterK Try.prog NN P20 c 20 [a0, a1, a2, a3] h = S20 c a0 a1 a2 a3 h := by kernel_rfl
def W20 (c : CV) (l : List AV) (h : AH) : R := match l with | [a0, a1, a2, a3] => S20 c a0 a1 a2 a3 h | _ => none
theorem W20_ok : WOk Try.prog 20 W20 := by
  intro c l h r e
  unfold W20 at e
  split at e
  · exact ⟨P20, by rw [S20_eq]; exact e⟩
  · cases e
/- slices.symMergeCmpFunc[int] -/
def P21 : Pl := (.n none (.n none .z (.n none (.n none .z (.n none .z (.n none (.n none (.n (some [11, 10, 4, 1, 0]) (.n none .z (.n (some [11, 10, 4, 1, 0]) .z .z)) .z) .z) (.n none (.n none .z (.n none (.n (some [13, 10, 0]) .z .z) .z)) .z)))) .z)) (.n none (.n none .z (.n none (.n none .z (.n none .z (.n none (.n none (.n (some [15, 14, 4, 2, 0]) (.n none .z (.n (some [15, 14, 4, 2, 0]) .z .z)) .z) .z) (.n none (.n none .z (.n none (.n (some [17, 14, 0]) .z .z) .z)) .z)))) .z)) (.n none .z (.n none .z (.n none .z (.n (some [21, 20, 19, 18, 4, 3, 2, 1, 0]) .z (.n none .z (.n none (.n none (.n (some [22, 21, 20, 19, 18, 4, 3, 2, 1, 0]) (.n none .z (.n (some [22, 21, 20, 19, 18, 4, 3, 2, 1, 0]) .z .z)) .z) .z) (.n none .z (.n (some [24, 20, 18, 4, 3, 1, 0]) (.n none (.r [[184, 181, 24, 20, 18, 4, 3, 2, 1, 0]]) .z) (.n (some [24, 18, 4, 3, 0]) (.n none (.r [[198, 195, 24, 20, 18, 4, 3, 1, 0]]) .z) (.n none (.r [[212, 209, 24, 18, 4, 3, 0]]) .z))))))))))))
def S21 (c : CV) (a0 a1 a2 a3 a4 : AV) (h : AH) : R :=
pInt .sub a2 a1 fun v0 =>
pInt .eql v0 (.int .i64 (.ofNat 1)) fun v1 =>
pCond v1 (
loopC (σ := AV × AV × AV × AV × AV × Unit) NN (fun i5 s2 h3 d4 =>
pInt .lss s2.2.1 s2.1 fun v6 =>
pCond v6 (
joinC (α := AV × AV × AV × AV × AV × Unit → AH → List Nat → R) (fun s7 h8 d9 =>
i5 (s7.1, s7.2.1, s7.2.2.1, s7.2.2.2.1, s7.2.2.2.2.1, ()) h8 d9) fun j10 =>
pInt .add s2.2.1 s2.1 fun v11 =>
pConvI .u64 v11 fun v12 =>
pShift .shr v12 (.int .u64 (.ofNat 1)) fun v13 =>
pConvI .i64 v13 fun v14 =>
pIdxS s2.2.2.2.2.1 v14 1 fun v15 =>
pLoad1 h3 v15 fun v16 =>
pIdxS s2.2.2.2.2.1 s2.2.2.2.1 1 fun v17 =>
pLoad1 h3 v17 fun v18 =>
pCall c s2.2.2.1 [v16, v18] h3 fun v19 h20 =>
pInt .lss v19 (.int .i64 (.ofNat 0)) fun v21 =>
pCond v21 (
pInt .add v14 (.int .i64 (.ofNat 1)) fun v22 =>
j10 (s2.1, v22, s2.2.2.1, s2.2.2.2.1, s2.2.2.2.2.1, ()) h20 d4) (
j10 (v14, s2.2.1, s2.2.2.1, s2.2.2.2.1, s2.2.2.2.2.1, ()) h20 d4)) (
loopC (σ := AV × AV × AV × Unit) NN (fun i26 s23 h24 d25 =>
pInt .sub s23.2.1 (.int .i64 (.ofNat 1)) fun v27 =>
pInt .lss s23.1 v27 fun v28 =>
pCond v28 (
pInt .add s23.1 (.int .i64 (.ofNat 1)) fun v29 =>
pInt .add s23.1 (.int .i64 (.ofNat 1)) fun v30 =>
pIdxS s23.2.2.1 v30 1 fun v31 =>
pLoad1 h24 v31 fun v32 =>
pIdxS s23.2.2.1 s23.1 1 fun v33 =>
pLoad1 h24 v33 fun v34 =>
pIdxS s23.2.2.1 s23.1 1 fun v35 =>
pStore h24 v35 v32 1 fun h36 =>
pIdxS s23.2.2.1 v29 1 fun v37 =>
pStore h36 v37 v34 1 fun h38 =>
pInt .add s23.1 (.int .i64 (.ofNat 1)) fun v39 =>
i26 (v39, s23.2.1, s23.2.2.1, ()) h38 d25) (
pLeave d25 h24 fun h40 =>
some ((.tup []), h40))) (s2.2.2.2.1, s2.2.1, s2.2.2.2.2.1, ()) h3 d4)) (a3, a2, a4, a1, a0, ()) h []) (
pInt .sub a3 a2 fun v41 =>
pInt .eql v41 (.int .i64 (.ofNat 1)) fun v42 =>
pCond v42 (
loopC (σ := AV × AV × AV × AV × AV × Unit) NN (fun i46 s43 h44 d45 =>
pInt .lss s43.2.1 s43.1 fun v47 =>
pCond v47 (
joinC (α := AV × AV × AV × AV × AV × Unit → AH → List Nat → R) (fun s48 h49 d50 =>
i46 (s48.1, s48.2.1, s48.2.2.1, s48.2.2.2.1, s48.2.2.2.2.1, ()) h49 d50) fun j51 =>
pInt .add s43.2.1 s43.1 fun v52 =>
pConvI .u64 v52 fun v53 =>
pShift .shr v53 (.int .u64 (.ofNat 1)) fun v54 =>
pConvI .i64 v54 fun v55 =>
pIdxS s43.2.2.2.2.1 s43.2.2.2.1 1 fun v56 =>
pLoad1 h44 v56 fun v57 =>
pIdxS s43.2.2.2.2.1 v55 1 fun v58 =>
pLoad1 h44 v58 fun v59 =>
pCall c s43.2.2.1 [v57, v59] h44 fun v60 h61 =>
pInt .lss v60 (.int .i64 (.ofNat 0)) fun v62 =>
pUn .not v62 fun v63 =>
pCond v63 (
pInt .add v55 (.int .i64 (.ofNat 1)) fun v64 =>
j51 (s43.1, v64, s43.2.2.1, s43.2.2.2.1, s43.2.2.2.2.1, ()) h61 d45) (
j51 (v55, s43.2.1, s43.2.2.1, s43.2.2.2.1, s43.2.2.2.2.1, ()) h61 d45)) (
loopC (σ := AV × AV × AV × Unit) NN (fun i68 s65 h66 d67 =>
pInt .gtr s65.1 s65.2.1 fun v69 =>
pCond v69 (
pInt .sub s65.1 (.int .i64 (.ofNat 1)) fun v70 =>
pInt .sub s65.1 (.int .i64 (.ofNat 1)) fun v71 =>
pIdxS s65.2.2.1 v71 1 fun v72 =>
pLoad1 h66 v72 fun v73 =>
pIdxS s65.2.2.1 s65.1 1 fun v74 =>
pLoad1 h66 v74 fun v75 =>
pIdxS s65.2.2.1 s65.1 1 fun v76 =>
pStore h66 v76 v73 1 fun h77 =>
pIdxS s65.2.2.1 v70 1 fun v78 =>
pStore h77 v78 v75 1 fun h79 =>
pInt .sub s65.1 (.int .i64 (.ofNat 1)) fun v80 =>
i68 (v80, s65.2.1, s65.2.2.1, ()) h79 d67) (
pLeave d67 h66 fun h81 =>
some ((.tup []), h81))) (s43.2.2.2.1, s43.2.1, s43.2.2.2.2.1, ()) h44 d45)) (a2, a1, a4, a2, a0, ()) h []) (
pInt .add a1 a3 fun v82 =>
pConvI .u64 v82 fun v83 =>
pShift .shr v83 (.int .u64 (.ofNat 1)) fun v84 =>
pConvI .i64 v84 fun v85 =>
pInt .add v85 a2 fun v86 =>
joinC (α := AV × AV × AV × AV × AV × AV × AV × AV × AV × Unit → AH → List Nat → R) (fun s87 h88 d89 =>
pInt .sub s87.2.2.1 (.int .i64 (.ofNat 1)) fun v91 =>
loopC (σ := AV × AV × AV × AV × AV × AV × AV × AV × AV × AV × Unit) NN (fun i95 s92 h93 d94 =>
pInt .lss s92.2.2.1 s92.2.1 fun v96 =>
pCond v96 (
joinC (α := AV × AV × AV × AV × AV × AV × AV × AV × AV × AV × Unit → AH → List Nat → R) (fun s97 h98 d99 =>
i95 (s97.1, s97.2.1, s97.2.2.1, s97.2.2.2.1, s97.2.2.2.2.1, s97.2.2.2.2.2.1, s97.2.2.2.2.2.2.1, s97.2.2.2.2.2.2.2.1, s97.2.2.2.2.2.2.2.2.1, s97.2.2.2.2.2.2.2.2.2.1, ()) h98 d99) fun j100 =>
pInt .add s92.2.2.1 s92.2.1 fun v101 =>
pConvI .u64 v101 fun v102 =>
pShift .shr v102 (.int .u64 (.ofNat 1)) fun v103 =>
pConvI .i64 v103 fun v104 =>
pInt .sub s92.1 v104 fun v105 =>
pIdxS s92.2.2.2.2.2.2.2.2.2.1 v105 1 fun v106 =>
pLoad1 h93 v106 fun v107 =>
pIdxS s92.2.2.2.2.2.2.2.2.2.1 v104 1 fun v108 =>
pLoad1 h93 v108 fun v109 =>
pCall c s92.2.2.2.2.2.1 [v107, v109] h93 fun v110 h111 =>
pInt .lss v110 (.int .i64 (.ofNat 0)) fun v112 =>
pUn .not v112 fun v113 =>
pCond v113 (
pInt .add v104 (.int .i64 (.ofNat 1)) fun v114 =>
j100 (s92.1, s92.2.1, v114, s92.2.2.2.1, s92.2.2.2.2.1, s92.2.2.2.2.2.1, s92.2.2.2.2.2.2.1, s92.2.2.2.2.2.2.2.1, s92.2.2.2.2.2.2.2.2.1, s92.2.2.2.2.2.2.2.2.2.1, ()) h111 d94) (
j100 (s92.1, v104, s92.2.2.1, s92.2.2.2.1, s92.2.2.2.2.1, s92.2.2.2.2.2.1, s92.2.2.2.2.2.2.1, s92.2.2.2.2.2.2.2.1, s92.2.2.2.2.2.2.2.2.1, s92.2.2.2.2.2.2.2.2.2.1, ()) h111 d94)) (
pInt .sub s92.2.2.2.1 s92.2.2.1 fun v115 =>
joinC (α := AV × AV × AV × AV × AV × AV × AV × Unit → AH → List Nat → R) (fun s116 h117 d118 =>
joinC (α := AV × AV × AV × AV × AV × Unit → AH → List Nat → R) (fun s120 h121 d122 =>
pInt .lss s120.2.1 s120.1 fun v124 =>
joinC (α := AV × AV × AV × AV × AV × AV × AV × Unit → AH → R) (fun s125 h126 =>
pPick s125.2.1 s125.1 (.bool false) fun v128 =>
pCond v128 (
pCall c (.fn 21 [] []) [s125.2.2.2.2.2.2.1, s125.2.2.2.1, s125.2.2.1, s125.2.2.2.2.2.1, s125.2.2.2.2.1] h126 fun _ h130 =>
pLeave d122 h130 fun h131 =>
some ((.tup []), h131)) (
pLeave d122 h126 fun h132 =>
some ((.tup []), h132))) fun j127 =>
pWant v124 true (
pInt .lss s120.1 s120.2.2.2.1 fun v133 =>
j127 (v133, v124, s120.1, s120.2.1, s120.2.2.1, s120.2.2.2.1, s120.2.2.2.2.1, ()) h121) (
j127 (.undef, v124, s120.1, s120.2.1, s120.2.2.1, s120.2.2.2.1, s120.2.2.2.2.1, ()) h121)) fun j123 =>
pInt .lss s116.2.2.2.2.2.1 s116.2.1 fun v134 =>
joinC (α := AV × AV × AV × AV × AV × AV × AV × AV × AV × Unit → AH → R) (fun s135 h136 =>
pPick s135.2.1 s135.1 (.bool false) fun v138 =>
pCond v138 (
pCall c (.fn 21 [] []) [s135.2.2.2.2.2.2.2.2.1, s135.2.2.2.2.2.2.2.1, s135.2.2.2.1, s135.2.2.2.2.1, s135.2.2.2.2.2.1] h136 fun _ h140 =>
j123 (s135.2.2.1, s135.2.2.2.2.1, s135.2.2.2.2.2.1, s135.2.2.2.2.2.2.1, s135.2.2.2.2.2.2.2.2.1, ()) h140 d118) (
j123 (s135.2.2.1, s135.2.2.2.2.1, s135.2.2.2.2.2.1, s135.2.2.2.2.2.2.1, s135.2.2.2.2.2.2.2.2.1, ()) h136 d118)) fun j137 =>
pWant v134 true (
pInt .lss s116.2.1 s116.2.2.1 fun v141 =>
j137 (v141, v134, s116.1, s116.2.1, s116.2.2.1, s116.2.2.2.1, s116.2.2.2.2.1, s116.2.2.2.2.2.1, s116.2.2.2.2.2.2.1, ()) h117) (
j137 (.undef, v134, s116.1, s116.2.1, s116.2.2.1, s116.2.2.2.1, s116.2.2.2.2.1, s116.2.2.2.2.2.1, s116.2.2.2.2.2.2.1, ()) h117)) fun j119 =>
pInt .lss s92.2.2.1 s92.2.2.2.2.2.2.2.1 fun v142 =>
joinC (α := AV × AV × AV × AV × AV × AV × AV × AV × AV × AV × Unit → AH → R) (fun s143 h144 =>
pPick s143.2.1 s143.1 (.bool false) fun v146 =>
pCond v146 (
pCall c (.fn 22 [] []) [s143.2.2.2.2.2.2.2.2.2.1, s143.2.2.2.1, s143.2.2.2.2.2.2.2.1, s143.2.2.1, s143.2.2.2.2.2.1] h144 fun _ h148 =>
j119 (s143.2.2.1, s143.2.2.2.1, s143.2.2.2.2.1, s143.2.2.2.2.2.1, s143.2.2.2.2.2.2.1, s143.2.2.2.2.2.2.2.2.1, s143.2.2.2.2.2.2.2.2.2.1, ()) h148 d94) (
j119 (s143.2.2.1, s143.2.2.2.1, s143.2.2.2.2.1, s143.2.2.2.2.2.1, s143.2.2.2.2.2.2.1, s143.2.2.2.2.2.2.2.2.1, s143.2.2.2.2.2.2.2.2.2.1, ()) h144 d94)) fun j145 =>
pWant v142 true (
pInt .lss s92.2.2.2.2.2.2.2.1 v115 fun v149 =>
j145 (v149, v142, v115, s92.2.2.1, s92.2.2.2.2.1, s92.2.2.2.2.2.1, s92.2.2.2.2.2.2.1, s92.2.2.2.2.2.2.2.1, s92.2.2.2.2.2.2.2.2.1, s92.2.2.2.2.2.2.2.2.2.1, ()) h93) (
j145 (.undef, v142, v115, s92.2.2.1, s92.2.2.2.2.1, s92.2.2.2.2.2.1, s92.2.2.2.2.2.2.1, s92.2.2.2.2.2.2.2.1, s92.2.2.2.2.2.2.2.2.1, s92.2.2.2.2.2.2.2.2.2.1, ()) h93))) (v91, s87.1, s87.2.1, s87.2.2.1, s87.2.2.2.1, s87.2.2.2.2.1, s87.2.2.2.2.2.1, s87.2.2.2.2.2.2.1, s87.2.2.2.2.2.2.2.1, s87.2.2.2.2.2.2.2.2.1, ()) h88 d89) fun j90 =>
pInt .gtr a2 v85 fun v150 =>
pCond v150 (
pInt .sub v86 a3 fun v151 =>
j90 (v85, v151, v86, v85, a4, a3, a2, a1, a0, ()) h []) (
j90 (a2, a1, v86, v85, a4, a3, a2, a1, a0, ()) h [])))
theorem S21_eq (c : CV) (a0 a1 a2 a3 a4 : AV) (h : AH) : enterK Try.prog NN P21 c 21 [a0, a1, a2, a3, a4] h = S21 c a0 a1 a2 a3 a4 h := by kernel_rfl
def W21 (c : CV) (l : List AV) (h : AH) : R := match l with | [a0, a1, a2, a3, a4] => S21 c a0 a1 a2 a3 a4 h | _ => none
theorem W21_ok : WOk Try.prog 21 W21 := by
  intro c l h r e
  unfold W21 at e
  split at e
  · exact ⟨P21, by rw [S21_eq]; exact e⟩
  · cases e
/- slices.rotateCmpFunc[int] -/
def P22 : Pl := (.n none .z (.n none .z (.n none (.n none (.n (some [11, 10, 4, 2, 0]) (.n none .z (.n (some [11, 10, 4, 2, 0]) .z .z)) .z) .z) .z)))
def S22 (c : CV) (a0 a1 a2 a3 a4 : AV) (h : AH) : R :=
pInt .sub a2 a1 fun v0 =>
pInt .sub a3 a2 fun v1 =>
loopC (σ := AV × AV × AV × AV × AV × Unit) NN (fun i5 s2 h3 d4 =>
pInt .neq s2.2.1 s2.1 fun v6 =>
pCond v6 (
joinC (α := AV × AV × AV × AV × AV × Unit → AH → List Nat → R) (fun s7 h8 d9 =>
i5 (s7.1, s7.2.1, s7.2.2.1, s7.2.2.2.1, s7.2.2.2.2.1, ()) h8 d9) fun j10 =>
pInt .gtr s2.2.1 s2.1 fun v11 =>
pCond v11 (
pInt .sub s2.2.2.2.1 s2.2.1 fun v12 =>
pCall c (.fn 23 [] []) [s2.2.2.2.2.1, v12, s2.2.2.2.1, s2.1, s2.2.2.1] h3 fun _ h14 =>
pInt .sub s2.2.1 s2.1 fun v15 =>
j10 (s2.1, v15, s2.2.2.1, s2.2.2.2.1, s2.2.2.2.2.1, ()) h14 d4) (
pInt .sub s2.2.2.2.1 s2.2.1 fun v16 =>
pInt .add s2.2.2.2.1 s2.1 fun v17 =>
pInt .sub v17 s2.2.1 fun v18 =>
pCall c (.fn 23 [] []) [s2.2.2.2.2.1, v16, v18, s2.2.1, s2.2.2.1] h3 fun _ h20 =>
pInt .sub s2.1 s2.2.1 fun v21 =>
j10 (v21, s2.2.1, s2.2.2.1, s2.2.2.2.1, s2.2.2.2.2.1, ()) h20 d4)) (
pInt .sub s2.2.2.2.1 s2.2.1 fun v22 =>
pCall c (.fn 23 [] []) [s2.2.2.2.2.1, v22, s2.2.2.2.1, s2.2.1, s2.2.2.1] h3 fun _ h24 =>
pLeave d4 h24 fun h25 =>
some ((.tup []), h25))) (v1, v0, a4, a2, a0, ()) h []
theorem S22_eq (c : CV) (a0 a1 a2 a3 a4 : AV) (h : AH) : enterK Try.prog NN P22 c 22 [a0, a1, a2, a3, a4] h = S22 c a0 a1 a2 a3 a4 h := by kernel_rfl
def W22 (c : CV) (l : List AV) (h : AH) : R := match l with | [a0, a1, a2, a3, a4] => S22 c a0 a1 a2 a3 a4 h | _ => none
theorem W22_ok : WOk Try.prog 22 W22 := by
  intro c l h r e
  unfold W22 at e
  split at e
  · exact ⟨P22, by rw [S22_eq]; exact e⟩
  · cases e
/- slices.swapRangeCmpFunc[int] -/
def P23 : Pl := (.n none .z (.n none (.n (some [10, 3, 2, 1, 0]) .z .z) .z))
def S23 (_ : CV) (a0 a1 a2 a3 _ : AV) (h : AH) : R :=
loopC (σ := AV × AV × AV × AV × AV × Unit) NN (fun i3 s0 h1 d2 =>
pInt .lss s0.1 s0.2.1 fun v4 =>
pCond v4 (
pInt .add s0.2.2.2.1 s0.1 fun v5 =>
pInt .add s0.2.2.1 s0.1 fun v6 =>
pInt .add s0.2.2.1 s0.1 fun v7 =>
pIdxS s0.2.2.2.2.1 v7 1 fun v8 =>
pLoad1 h1 v8 fun v9 =>
pInt .add s0.2.2.2.1 s0.1 fun v10 =>
pIdxS s0.2.2.2.2.1 v10 1 fun v11 =>
pLoad1 h1 v11 fun v12 =>
pIdxS s0.2.2.2.2.1 v5 1 fun v13 =>
pStore h1 v13 v9 1 fun h14 =>
pIdxS s0.2.2.2.2.1 v6 1 fun v15 =>
pStore h14 v15 v12 1 fun h16 =>
pInt .add s0.1 (.int .i64 (.ofNat 1)) fun v17 =>
i3 (v17, s0.2.1, s0.2.2.1, s0.2.2.2.1, s0.2.2.2.2.1, ()) h16 d2) (
pLeave d2 h1 fun h18 =>
some ((.tup []), h18))) ((.int .i64 (.ofNat 0)), a3, a2, a1, a0, ()) h []
theorem S23_eq (c : CV) (a0 a1 a2 a3 a4 : AV) (h : AH) : enterK Try.prog NN P23 c 23 [a0, a1, a2, a3, a4] h = S23 c a0 a1 a2 a3 a4 h := by kernel_rfl
def W23 (c : CV) (l : List AV) (h : AH) : R := match l with | [a0, a1, a2, a3, a4] => S23 c a0 a1 a2 a3 a4 h | _ => none
theorem W23_ok : WOk Try.prog 23 W23 := by
  intro c l h r e
  unfold W23 at e
  split at e
  · exact ⟨P23, by rw [S23_eq]; exact e⟩
  · cases e
end
end Go.Proofs.Ytlmfnmppcdijfaa
