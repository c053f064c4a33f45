/- Printed by a program of mine: the bodies of the program's functions aa terms of the primitives of the abstract executor, each shown equal by the kernel. -/
import Derived.Test.YtcmjgcfkhommkaaGreatDoorProg
import Derived.Test.YtcmjgcfkhommkaaGreatDoorJudgePartsAe1
import Derived.KernelRfl
namespace Go.Proofs.YtcmjgcfkhommkaaGreatDoor
open Go Go.Ae
set_option maxRecDepth 100000
noncomputable section
/- quietus/quietuslaw30.JudgeRuns -/
def P3 : Pl := (.n none .z (.n none .z (.n none .z (.n none .z (.n none .z (.n none .z (.n none .z (.n none .z (.n none (.r [[29, 27, 6, 5, 4, 3, 2, 1], [39, 31, 6, 5, 3, 2, 1], [50, 41, 6, 1], [55, 52, 6, 1], [61, 57, 1], [66, 63]]) .z)))))))))
def S3 (c : CV) (h : AH) : R :=
pCall c (.fn 6 [] []) [(.int .i64 (.ofNat 40))] h fun v0 h1 =>
pBuild [(.int .i64 (.ofNat 0)), (.int .i64 (.ofNat 0)), (.int .i64 (.ofNat 0)), (.int .i64 (.ofNat 0)), (.int .u64 (.ofNat 0))] [(0, 1, (.int .i64 (.ofNat 40)))] fun v2 =>
pBuild [(.int .i64 (.ofNat 0)), (.int .i64 (.ofNat 0)), (.int .i64 (.ofNat 0)), (.int .i64 (.ofNat 0)), (.int .u64 (.ofNat 0)), (.int .i64 (.ofNat 0)), (.int .i64 (.ofNat 0)), (.int .i64 (.ofNat 0))] [(0, 5, v2), (6, 1, (.int .i64 (.ofNat 9))), (7, 1, (.int .i64 (.ofNat 9)))] fun v3 =>
pBox h1 28 (.agg [(.int .i64 (.ofNat 0)), (.int .i64 (.ofNat 0)), (.int .i64 (.ofNat 0)), (.int .i64 (.ofNat 0)), (.int .u64 (.ofNat 0)), (.int .i64 (.ofNat 0)), (.int .i64 (.ofNat 0)), (.int .i64 (.ofNat 0))]) fun v4 h5 =>
pStore h5 v4 v3 8 fun h6 =>
pBuild [(.int .i64 (.ofNat 0)), (.int .i64 (.ofNat 0)), (.int .i64 (.ofNat 0)), (.int .i64 (.ofNat 0)), (.int .u64 (.ofNat 0))] [(0, 1, (.int .i64 (.ofNat 1))), (4, 1, (.int .u64 (.ofNat 5)))] fun v7 =>
pBuild [(.int .i64 (.ofNat 0)), (.int .i64 (.ofNat 0)), (.int .i64 (.ofNat 0)), (.int .i64 (.ofNat 0)), (.int .u64 (.ofNat 0))] [(0, 1, (.int .i64 (.ofNat 9))), (1, 1, (.int .i64 (.ofNat 7))), (2, 1, (.int .i64 (.ofNat 0))), (3, 1, (.int .i64 (.ofNat 6)))] fun v8 =>
pBuild [(.int .i64 (.ofNat 0)), (.int .i64 (.ofNat 0)), (.int .i64 (.ofNat 0)), (.int .i64 (.ofNat 0)), (.int .u64 (.ofNat 0))] [(0, 1, (.int .i64 (.ofNat 21)))] fun v9 =>
pBuildS h6 30 [(.int .i64 (.ofNat 0)), (.int .i64 (.ofNat 0)), (.int .i64 (.ofNat 0)), (.int .i64 (.ofNat 0)), (.int .u64 (.ofNat 0))] 3 [(0, 5, v7), (5, 5, v8), (10, 5, v9)] fun v10 h11 =>
pBuild [.nils] [(0, 1, v10)] fun v12 =>
pBox h11 33 (.agg [.nils]) fun v13 h14 =>
pStore h14 v13 v12 1 fun h15 =>
pBuild [(.int .i64 (.ofNat 0)), (.int .u64 (.ofNat 0))] [(0, 1, (.int .i64 (.ofNat 6))), (1, 1, (.int .u64 (.ofNat 5)))] fun v16 =>
pBuildS h15 35 [(.int .i64 (.ofNat 0)), (.int .u64 (.ofNat 0))] 1 [(0, 2, v16)] fun v17 h18 =>
pBuild [(.int .i64 (.ofNat 0)), (.int .i64 (.ofNat 0)), (.int .i64 (.ofNat 0)), (.bool false), (.int .i64 (.ofNat 0)), (.int .i64 (.ofNat 0)), (.int .u64 (.ofNat 0)), (.int .u64 (.ofNat 0)), (.int .i64 (.ofNat 0)), (.int .i64 (.ofNat 0)), .nils, .nils, .nils, (.str [])] [(4, 1, (.int .i64 (.ofNat 2))), (7, 1, (.int .u64 (.ofNat 1))), (13, 1, (.str [53])), (11, 1, v17)] fun v19 =>
pBox h18 40 (.agg [(.int .i64 (.ofNat 0)), (.int .i64 (.ofNat 0)), (.int .i64 (.ofNat 0)), (.bool false), (.int .i64 (.ofNat 0)), (.int .i64 (.ofNat 0)), (.int .u64 (.ofNat 0)), (.int .u64 (.ofNat 0)), (.int .i64 (.ofNat 0)), (.int .i64 (.ofNat 0)), .nils, .nils, .nils, (.str [])]) fun v20 h21 =>
pStore h21 v20 v19 14 fun h22 =>
pLoadN h22 v20 14 fun v23 =>
pBox h22 40 (.agg [(.int .i64 (.ofNat 0)), (.int .i64 (.ofNat 0)), (.int .i64 (.ofNat 0)), (.bool false), (.int .i64 (.ofNat 0)), (.int .i64 (.ofNat 0)), (.int .u64 (.ofNat 0)), (.int .u64 (.ofNat 0)), (.int .i64 (.ofNat 0)), (.int .i64 (.ofNat 0)), .nils, .nils, .nils, (.str [])]) fun v24 h25 =>
pStore h25 v24 v23 14 fun h26 =>
pFieldA v24 13 fun v27 =>
pStore h26 v27 (.str [54]) 1 fun h28 =>
pLoadN h28 v20 14 fun v29 =>
pBuildS h28 40 [(.int .i64 (.ofNat 0)), (.int .i64 (.ofNat 0)), (.int .i64 (.ofNat 0)), (.bool false), (.int .i64 (.ofNat 0)), (.int .i64 (.ofNat 0)), (.int .u64 (.ofNat 0)), (.int .u64 (.ofNat 0)), (.int .i64 (.ofNat 0)), (.int .i64 (.ofNat 0)), .nils, .nils, .nils, (.str [])] 1 [(0, 14, v29)] fun v30 h31 =>
pCall c (.fn 7 [] []) [v0, v30] h31 fun v32 h33 =>
pLoadN h33 v4 8 fun v34 =>
pCall c (.fn 8 [] []) [v0, v34, .nils, .nils] h33 fun v35 h36 =>
joinC (α := AV × AV × AV × AV × AV × AV × AV × AV × Unit → AH → R) (fun s37 h38 =>
pPick s37.2.1 s37.1 (.bool false) fun v40 =>
joinC (α := AV × AV × AV × AV × AV × AV × AV × Unit → AH → R) (fun s41 h42 =>
pPick s41.2.1 s41.1 (.bool false) fun v44 =>
joinC (α := AV × AV × AV × AV × Unit → AH → R) (fun s45 h46 =>
pPick s45.2.1 s45.1 (.bool false) fun v48 =>
joinC (α := AV × AV × AV × AV × Unit → AH → R) (fun s49 h50 =>
pPick s49.2.1 s49.1 (.bool false) fun v52 =>
joinC (α := AV × AV × AV × Unit → AH → R) (fun s53 h54 =>
pPick s53.2.1 s53.1 (.bool false) fun v56 =>
joinC (α := AV × AV × Unit → AH → R) (fun s57 h58 =>
pPick s57.2.1 s57.1 (.bool false) fun v60 =>
some (v60, h58)) fun j59 =>
pWant v56 true (
pBuild [(.int .i64 (.ofNat 0)), (.int .i64 (.ofNat 0)), (.int .u64 (.ofNat 0)), (.int .u64 (.ofNat 0)), (.int .u64 (.ofNat 0)), (.bool false), (.int .i64 (.ofNat 0)), (.int .u64 (.ofNat 0)), (.bool false), (.int .i64 (.ofNat 0))] [(0, 1, (.int .i64 (.ofNat 2))), (1, 1, (.int .i64 (.ofNat 20)))] fun v61 =>
pCall c (.fn 10 [] []) [s53.2.2.1, v61] h54 fun v62 h63 =>
j59 (v62, v56, ()) h63) (
j59 (.undef, v56, ()) h54)) fun j55 =>
pWant v52 true (
pIdxS s49.2.2.1 (.int .i64 (.ofNat 6)) 1 fun v64 =>
pLoad1 h50 v64 fun v65 =>
pInt .eql v65 (.int .u64 (.ofNat 5)) fun v66 =>
j55 (v66, v52, s49.2.2.2.1, ()) h50) (
j55 (.undef, v52, s49.2.2.2.1, ()) h50)) fun j51 =>
pWant v48 true (
pLenS s45.2.2.1 fun v67 =>
pInt .eql v67 (.int .i64 (.ofNat 40)) fun v68 =>
j51 (v68, v48, s45.2.2.1, s45.2.2.2.1, ()) h46) (
j51 (.undef, v48, s45.2.2.1, s45.2.2.2.1, ()) h46)) fun j47 =>
pWant v44 true (
pLoadN h42 s41.2.2.2.2.2.1 8 fun v69 =>
pLoadN h42 s41.2.2.2.2.1 1 fun v70 =>
pBuildS h42 33 [.nils] 1 [(0, 1, v70)] fun v71 h72 =>
pBuildS h72 45 [.nils] 1 [(0, 1, v71)] fun v73 h74 =>
pLoadN h74 s41.2.2.2.1 14 fun v75 =>
pBuildS h74 40 [(.int .i64 (.ofNat 0)), (.int .i64 (.ofNat 0)), (.int .i64 (.ofNat 0)), (.bool false), (.int .i64 (.ofNat 0)), (.int .i64 (.ofNat 0)), (.int .u64 (.ofNat 0)), (.int .u64 (.ofNat 0)), (.int .i64 (.ofNat 0)), (.int .i64 (.ofNat 0)), .nils, .nils, .nils, (.str [])] 1 [(0, 14, v75)] fun v76 h77 =>
pCall c (.fn 8 [] []) [s41.2.2.2.2.2.2.1, v69, v73, v76] h77 fun v78 h79 =>
pUn .not v78 fun v80 =>
j47 (v80, v44, s41.2.2.1, s41.2.2.2.2.2.2.1, ()) h79) (
j47 (.undef, v44, s41.2.2.1, s41.2.2.2.2.2.2.1, ()) h42)) fun j43 =>
pWant v40 true (
pLoadN h38 s37.2.2.2.2.2.2.1 8 fun v81 =>
pLoadN h38 s37.2.2.2.2.2.1 1 fun v82 =>
pBuildS h38 33 [.nils] 1 [(0, 1, v82)] fun v83 h84 =>
pBuildS h84 45 [.nils] 1 [(0, 1, v83)] fun v85 h86 =>
pLoadN h86 s37.2.2.2.2.1 14 fun v87 =>
pBuildS h86 40 [(.int .i64 (.ofNat 0)), (.int .i64 (.ofNat 0)), (.int .i64 (.ofNat 0)), (.bool false), (.int .i64 (.ofNat 0)), (.int .i64 (.ofNat 0)), (.int .u64 (.ofNat 0)), (.int .u64 (.ofNat 0)), (.int .i64 (.ofNat 0)), (.int .i64 (.ofNat 0)), .nils, .nils, .nils, (.str [])] 1 [(0, 14, v87)] fun v88 h89 =>
pCall c (.fn 8 [] []) [s37.2.2.2.2.2.2.2.1, v81, v85, v88] h89 fun v90 h91 =>
j43 (v90, v40, s37.2.2.1, s37.2.2.2.1, s37.2.2.2.2.2.1, s37.2.2.2.2.2.2.1, s37.2.2.2.2.2.2.2.1, ()) h91) (
j43 (.undef, v40, s37.2.2.1, s37.2.2.2.1, s37.2.2.2.2.2.1, s37.2.2.2.2.2.2.1, s37.2.2.2.2.2.2.2.1, ()) h38)) fun j39 =>
pWant v35 true (
pCall c (.fn 9 [] []) [v0, .nils] h36 fun v92 h93 =>
j39 (v92, v35, v32, v24, v20, v13, v4, v0, ()) h93) (
j39 (.undef, v35, v32, v24, v20, v13, v4, v0, ()) h36)
theorem S3_eq (c : CV) (h : AH) : enterK Tryz.prog NN P3 c 3 [] h = S3 c h := by kernel_rfl
def W3 (c : CV) (l : List AV) (h : AH) : R := match l with | [] => S3 c h | _ => none
theorem W3_ok : WOk Tryz.prog 3 W3 := by
  intro c l h r e
  unfold W3 at e
  split at e
  · exact ⟨P3, by rw [S3_eq]; exact e⟩
  · cases e
/- quietus/quietuslaw30.JudgeParts -/
def P4 : Pl := (.n none .z (.n none .z (.n none .z (.n none .z (.n none .z (.n none .z (.n none (.n none .z (.n none (.n (some [14, 13, 12, 11, 4, 3, 2, 1]) (.n none (.n none (.r [[35, 33, 14, 13, 12, 11, 4, 3, 2, 1], [43, 37, 14, 13, 12, 11, 4, 3, 2, 1]]) .z) (.n none (.n none (.n (some [14, 13, 12, 11, 4, 3, 2, 1]) .z .z) .z) .z)) .z) .z)) (.n none .z (.n none (.n none .z (.n none (.n (some [16, 15, 12, 11, 4, 3, 2]) (.n none .z (.n none (.n none (.n none .z (.n none (.n none .z (.n none (.n (some [18, 17, 16, 15, 12, 11, 4, 3, 2]) (.n none (.n none (.r [[87, 85, 18, 17, 16, 15, 12, 11, 4, 3, 2]]) .z) .z) .z) .z)) .z)) .z) .z)) .z) .z)) (.n none .z (.n none .z (.n none .z (.n none .z (.n none (.r [[144, 137, 20, 19, 12], [153, 146, 20, 12], [164, 155]]) .z))))))))))))))
def S4 (c : CV) (a0 a1 a2 a3 a4 : AV) (h : AH) : R :=
pCall c (.fn 3 [] []) [] h fun v0 h1 =>
pUn .not v0 fun v2 =>
pCond v2 (
some ((.bool false), h1)) (
pLenS a2 fun v3 =>
pInt .gtr v3 (.int .i64 (.ofNat 5)) fun v4 =>
pCond v4 (
some ((.bool true), h1)) (
pCall c (.fn 11 [] []) [a0, .nils, a1] h1 fun v5 h6 =>
loopC (σ := AV × AV × AV × AV × AV × AV × AV × AV × Unit) NN (fun i10 s7 h8 d9 =>
pLenS s7.2.2.2.2.2.2.2.1 fun v11 =>
pInt .lss s7.1 v11 fun v12 =>
joinC (α := AV × AV × AV × AV × AV × AV × AV × AV × AV × AV × Unit → AH → R) (fun s13 h14 =>
pPick s13.2.1 s13.1 (.bool false) fun v16 =>
joinC (α := AV × AV × AV × AV × AV × AV × AV × AV × AV × AV × Unit → AH → R) (fun s17 h18 =>
pPick s17.2.1 s17.1 (.bool false) fun v20 =>
pCond v20 (
joinC (α := AV × AV × AV × AV × AV × AV × AV × AV × Unit → AH → List Nat → R) (fun s21 h22 d23 =>
pInt .add s21.2.1 (.int .i64 (.ofNat 1)) fun v25 =>
pIdxS s21.2.2.2.2.2.2.2.1 s21.1 1 fun v26 =>
pLoad1 h22 v26 fun v27 =>
pInt .rem v27 (.int .u8 (.ofNat 3)) fun v28 =>
pInt .add v28 (.int .u8 (.ofNat 1)) fun v29 =>
pConvI .u64 v29 fun v30 =>
pShift .shl (.int .i64 (.ofNat 1)) v30 fun v31 =>
pInt .add v25 v31 fun v32 =>
pInt .add s21.1 (.int .i64 (.ofNat 1)) fun v33 =>
i10 (v33, v32, s21.2.2.1, s21.2.2.2.1, s21.2.2.2.2.1, s21.2.2.2.2.2.1, s21.2.2.2.2.2.2.1, s21.2.2.2.2.2.2.2.1, ()) h22 d23) fun j24 =>
pIdxS s17.2.2.2.2.2.2.2.2.2.1 s17.2.2.1 1 fun v34 =>
pLoad1 h18 v34 fun v35 =>
pInt .and v35 (.int .u8 (.ofNat 48)) fun v36 =>
pInt .eql v36 (.int .u8 (.ofNat 0)) fun v37 =>
pCond v37 (
pInt .add s17.2.2.2.1 (.int .i64 (.ofNat 1)) fun v38 =>
pConvI .u64 s17.2.2.1 fun v39 =>
pBuild [(.int .i64 (.ofNat 0)), (.int .u64 (.ofNat 0))] [(0, 1, v38), (1, 1, v39)] fun v40 =>
pBuildS h18 58 [(.int .i64 (.ofNat 0)), (.int .u64 (.ofNat 0))] 1 [(0, 2, v40)] fun v41 h42 =>
pAppend h42 58 2 s17.2.2.2.2.1 v41 fun v43 h44 =>
j24 (s17.2.2.1, s17.2.2.2.1, v43, s17.2.2.2.2.2.1, s17.2.2.2.2.2.2.1, s17.2.2.2.2.2.2.2.1, s17.2.2.2.2.2.2.2.2.1, s17.2.2.2.2.2.2.2.2.2.1, ()) h44 d9) (
j24 (s17.2.2.1, s17.2.2.2.1, s17.2.2.2.2.1, s17.2.2.2.2.2.1, s17.2.2.2.2.2.2.1, s17.2.2.2.2.2.2.2.1, s17.2.2.2.2.2.2.2.2.1, s17.2.2.2.2.2.2.2.2.2.1, ()) h18 d9)) (
loopC (σ := AV × AV × AV × AV × AV × AV × AV × Unit) NN (fun i48 s45 h46 d47 =>
pLenS s45.2.2.2.2.2.2.1 fun v49 =>
pInt .lss s45.1 v49 fun v50 =>
pCond v50 (
loopC (σ := AV × AV × AV × AV × AV × AV × AV × AV × AV × Unit) NN (fun i54 s51 h52 d53 =>
pIdxS s51.2.2.2.2.2.2.2.2.1 s51.2.2.1 1 fun v55 =>
pLoad1 h52 v55 fun v56 =>
pLenS v56 fun v57 =>
pInt .lss s51.1 v57 fun v58 =>
joinC (α := AV × AV × AV × AV × AV × AV × AV × AV × AV × AV × AV × Unit → AH → R) (fun s59 h60 =>
pPick s59.2.1 s59.1 (.bool false) fun v62 =>
pCond v62 (
pIdxS s59.2.2.2.2.2.2.2.2.2.2.1 s59.2.2.2.2.1 1 fun v63 =>
pLoad1 h60 v63 fun v64 =>
pIdxS v64 s59.2.2.1 1 fun v65 =>
pLoad1 h60 v65 fun v66 =>
pConvI .i64 v66 fun v67 =>
pInt .rem v67 (.int .i64 (.ofNat 60)) fun v68 =>
pBuild [(.int .i64 (.ofNat 0)), (.int .u64 (.ofNat 0))] [(0, 1, v68)] fun v69 =>
pBuildS h60 58 [(.int .i64 (.ofNat 0)), (.int .u64 (.ofNat 0))] 1 [(0, 2, v69)] fun v70 h71 =>
pAppend h71 58 2 s59.2.2.2.1 v70 fun v72 h73 =>
pInt .add s59.2.2.1 (.int .i64 (.ofNat 1)) fun v74 =>
i54 (v74, v72, s59.2.2.2.2.1, s59.2.2.2.2.2.1, s59.2.2.2.2.2.2.1, s59.2.2.2.2.2.2.2.1, s59.2.2.2.2.2.2.2.2.1, s59.2.2.2.2.2.2.2.2.2.1, s59.2.2.2.2.2.2.2.2.2.2.1, ()) h73 d53) (
pBuildS h60 56 [.nils] 1 [(0, 1, s59.2.2.2.1)] fun v75 h76 =>
pAppend h76 56 1 s59.2.2.2.2.2.1 v75 fun v77 h78 =>
pInt .add s59.2.2.2.2.1 (.int .i64 (.ofNat 1)) fun v79 =>
i48 (v79, v77, s59.2.2.2.2.2.2.1, s59.2.2.2.2.2.2.2.1, s59.2.2.2.2.2.2.2.2.1, s59.2.2.2.2.2.2.2.2.2.1, s59.2.2.2.2.2.2.2.2.2.2.1, ()) h78 d53)) fun j61 =>
pWant v58 true (
pInt .lss s51.1 (.int .i64 (.ofNat 6)) fun v80 =>
j61 (v80, v58, s51.1, s51.2.1, s51.2.2.1, s51.2.2.2.1, s51.2.2.2.2.1, s51.2.2.2.2.2.1, s51.2.2.2.2.2.2.1, s51.2.2.2.2.2.2.2.1, s51.2.2.2.2.2.2.2.2.1, ()) h52) (
j61 (.undef, v58, s51.1, s51.2.1, s51.2.2.1, s51.2.2.2.1, s51.2.2.2.2.1, s51.2.2.2.2.2.1, s51.2.2.2.2.2.2.1, s51.2.2.2.2.2.2.2.1, s51.2.2.2.2.2.2.2.2.1, ()) h52)) ((.int .i64 (.ofNat 0)), .nils, s45.1, s45.2.1, s45.2.2.1, s45.2.2.2.1, s45.2.2.2.2.1, s45.2.2.2.2.2.1, s45.2.2.2.2.2.2.1, ()) h46 d47) (
pBuildS h46 56 [.nils] 1 [(0, 1, s45.2.2.1)] fun v81 h82 =>
pAppend h82 56 1 .nils v81 fun v83 h84 =>
pAppend h84 56 1 v83 s45.2.1 fun v85 h86 =>
pBuildS h86 56 [.nils] 1 [(0, 1, s45.2.2.1)] fun v87 h88 =>
pCall c (.fn 9 [] []) [s45.2.2.2.1, v87] h88 fun v89 h90 =>
pUn .not v89 fun v91 =>
pCond v91 (
pLeave d47 h90 fun h92 =>
some ((.bool false), h92)) (
pAppend h90 24 1 .nils s45.2.2.2.1 fun v93 h94 =>
pConvI .i64 s45.2.2.2.2.2.1 fun v95 =>
pLenS v93 fun v96 =>
pInt .rem v95 v96 fun v97 =>
pInt .rem s45.2.2.2.2.1 (.int .u8 (.ofNat 40)) fun v98 =>
pConvI .u64 v98 fun v99 =>
pIdxS v93 v97 1 fun v100 =>
pStore h94 v100 v99 1 fun h101 =>
pCall c (.fn 9 [] []) [s45.2.2.2.1, s45.2.1] h101 fun v102 h103 =>
pCall c (.fn 12 [] []) [s45.2.2.2.1, s45.2.1] h103 fun v104 h105 =>
pEq .bool false v102 v104 fun v106 =>
joinC (α := AV × AV × AV × AV × AV × Unit → AH → R) (fun s107 h108 =>
pPick s107.2.1 s107.1 (.bool false) fun v110 =>
joinC (α := AV × AV × AV × AV × Unit → AH → R) (fun s111 h112 =>
pPick s111.2.1 s111.1 (.bool false) fun v114 =>
joinC (α := AV × AV × Unit → AH → R) (fun s115 h116 =>
pPick s115.2.1 s115.1 (.bool false) fun v118 =>
pLeave d47 h116 fun h119 =>
some (v118, h119)) fun j117 =>
pWant v114 true (
pBuildS h112 56 [.nils] 1 [(0, 1, s111.2.2.2.1)] fun v120 h121 =>
pCall c (.fn 9 [] []) [s111.2.2.1, v120] h121 fun v122 h123 =>
pBuildS h123 56 [.nils] 1 [(0, 1, s111.2.2.2.1)] fun v124 h125 =>
pCall c (.fn 12 [] []) [s111.2.2.1, v124] h125 fun v126 h127 =>
pEq .bool false v122 v126 fun v128 =>
j117 (v128, v114, ()) h127) (
j117 (.undef, v114, ()) h112)) fun j113 =>
pWant v110 true (
pCall c (.fn 9 [] []) [s107.2.2.1, s107.2.2.2.1] h108 fun v129 h130 =>
pCall c (.fn 12 [] []) [s107.2.2.1, s107.2.2.2.1] h130 fun v131 h132 =>
pEq .bool false v129 v131 fun v133 =>
j113 (v133, v110, s107.2.2.1, s107.2.2.2.2.1, ()) h132) (
j113 (.undef, v110, s107.2.2.1, s107.2.2.2.2.1, ()) h108)) fun j109 =>
pWant v106 true (
pCall c (.fn 9 [] []) [s45.2.2.2.1, v85] h105 fun v134 h135 =>
pCall c (.fn 12 [] []) [s45.2.2.2.1, v85] h135 fun v136 h137 =>
pEq .bool false v134 v136 fun v138 =>
j109 (v138, v106, v93, v85, s45.2.2.1, ()) h137) (
j109 (.undef, v106, v93, v85, s45.2.2.1, ()) h105)))) ((.int .i64 (.ofNat 0)), .nils, s17.2.2.2.2.1, s17.2.2.2.2.2.1, s17.2.2.2.2.2.2.1, s17.2.2.2.2.2.2.2.1, s17.2.2.2.2.2.2.2.2.1, ()) h18 d9)) fun j19 =>
pWant v16 true (
pIdxS s13.2.2.2.2.2.1 (.int .i64 (.ofNat 5)) 1 fun v139 =>
pLoad1 h14 v139 fun v140 =>
pConvI .i64 v140 fun v141 =>
pInt .lss s13.2.2.2.1 v141 fun v142 =>
j19 (v142, v16, s13.2.2.1, s13.2.2.2.1, s13.2.2.2.2.1, s13.2.2.2.2.2.1, s13.2.2.2.2.2.2.1, s13.2.2.2.2.2.2.2.1, s13.2.2.2.2.2.2.2.2.1, s13.2.2.2.2.2.2.2.2.2.1, ()) h14) (
j19 (.undef, v16, s13.2.2.1, s13.2.2.2.1, s13.2.2.2.2.1, s13.2.2.2.2.2.1, s13.2.2.2.2.2.2.1, s13.2.2.2.2.2.2.2.1, s13.2.2.2.2.2.2.2.2.1, s13.2.2.2.2.2.2.2.2.2.1, ()) h14)) fun j15 =>
pWant v12 true (
pInt .lss s7.1 (.int .i64 (.ofNat 8)) fun v143 =>
j15 (v143, v12, s7.1, s7.2.1, s7.2.2.1, s7.2.2.2.1, s7.2.2.2.2.1, s7.2.2.2.2.2.1, s7.2.2.2.2.2.2.1, s7.2.2.2.2.2.2.2.1, ()) h8) (
j15 (.undef, v12, s7.1, s7.2.1, s7.2.2.1, s7.2.2.2.1, s7.2.2.2.2.1, s7.2.2.2.2.2.1, s7.2.2.2.2.2.2.1, s7.2.2.2.2.2.2.2.1, ()) h8)) ((.int .i64 (.ofNat 0)), (.int .i64 (.ofNat 14)), .nils, v5, a4, a3, a2, a1, ()) h6 []))
theorem S4_eq (c : CV) (a0 a1 a2 a3 a4 : AV) (h : AH) : enterK Tryz.prog NN P4 c 4 [a0, a1, a2, a3, a4] h = S4 c a0 a1 a2 a3 a4 h := by kernel_rfl
def W4 (c : CV) (l : List AV) (h : AH) : R := match l with | [a0, a1, a2, a3, a4] => S4 c a0 a1 a2 a3 a4 h | _ => none
theorem W4_ok : WOk Tryz.prog 4 W4 := by
  intro c l h r e
  unfold W4 at e
  split at e
  · exact ⟨P4, by rw [S4_eq]; exact e⟩
  · cases e
/- quietus/quietuslaw30.JudgeSafe -/
def P5 : Pl := (.n none .z (.n none .z (.n none .z (.n none .z (.n none .z (.n none .z (.n (some [12, 11, 7]) .z (.n none (.r [[10]]) .z))))))))
def S5 (c : CV) (a0 a1 a2 a3 a4 : AV) (h : AH) : R :=
pBox h 51 a2 fun v0 h1 =>
pCall c (.fn 3 [] []) [] h1 fun v2 h3 =>
pUn .not v2 fun v4 =>
pCond v4 (
some ((.bool false), h3)) (
pCall c (.fn 11 [] []) [a0, .nils, a1] h3 fun v5 h6 =>
pAppend h6 24 1 .nils v5 fun v7 h8 =>
pConvI .i64 a3 fun v9 =>
pLenS v7 fun v10 =>
pInt .rem v9 v10 fun v11 =>
pInt .rem a4 (.int .u8 (.ofNat 40)) fun v12 =>
pConvI .u64 v12 fun v13 =>
pIdxS v7 v11 1 fun v14 =>
pStore h8 v14 v13 1 fun h15 =>
pFieldA v0 0 fun v16 =>
pLoad1 h15 v16 fun v17 =>
pCall c (.fn 13 [] []) [v17, (.int .i64 (.ofNat 0)), (.int .i64 (.ofNat 4))] h15 fun v18 h19 =>
pFieldA v0 0 fun v20 =>
pStore h19 v20 v18 1 fun h21 =>
joinC (α := AV × AV × AV × Unit → AH → List Nat → R) (fun s22 h23 d24 =>
joinC (α := AV × Unit → AH → R) (fun s26 h27 =>
pLeave d24 h27 fun h29 =>
some (s26.1, h29)) fun j28 =>
pLoadN h23 s22.2.2.1 10 fun v30 =>
pCall c (.fn 10 [] []) [s22.2.1, v30] h23 fun v31 h32 =>
pLoadN h32 s22.2.2.1 10 fun v33 =>
pCall c (.fn 14 [] []) [s22.2.1, v33] h32 fun v34 h35 =>
pEq .bool false v31 v34 fun v36 =>
pWant v36 true (
pLoadN h35 s22.2.2.1 10 fun v37 =>
pCall c (.fn 10 [] []) [s22.1, v37] h35 fun v38 h39 =>
pLoadN h39 s22.2.2.1 10 fun v40 =>
pCall c (.fn 14 [] []) [s22.1, v40] h39 fun v41 h42 =>
pEq .bool false v38 v41 fun v43 =>
pPick v36 v43 (.bool false) fun v44 =>
pChk s22.2.2.1 (some 10) v40 h35 h39 h23.nx <|
pChk s22.2.2.1 (some 10) v33 h23 h32 h23.nx <|
j28 (v44, ()) h42) (
pPick v36 .undef (.bool false) fun v45 =>
pChk s22.2.2.1 (some 10) v33 h23 h32 h23.nx <|
j28 (v45, ()) h35)) fun j25 =>
pFieldA v0 3 fun v46 =>
pLoad1 h21 v46 fun v47 =>
pInt .rem v47 (.int .u64 (.ofNat 8)) fun v48 =>
pInt .gtr v48 (.int .u64 (.ofNat 0)) fun v49 =>
pCond v49 (
pFieldA v0 1 fun v50 =>
pLoad1 h21 v50 fun v51 =>
pLenS v5 fun v52 =>
pCall c (.fn 13 [] []) [v51, (.int .i64 (.negSucc 0)), v52] h21 fun v53 h54 =>
pFieldA v0 1 fun v55 =>
pStore h54 v55 v53 1 fun h56 =>
j25 (v7, v5, v0, ()) h56 []) (
j25 (v7, v5, v0, ()) h21 []))
theorem S5_eq (c : CV) (a0 a1 a2 a3 a4 : AV) (h : AH) : enterK Tryz.prog NN P5 c 5 [a0, a1, a2, a3, a4] h = S5 c a0 a1 a2 a3 a4 h := by kernel_rfl
def W5 (c : CV) (l : List AV) (h : AH) : R := match l with | [a0, a1, a2, a3, a4] => S5 c a0 a1 a2 a3 a4 h | _ => none
theorem W5_ok : WOk Tryz.prog 5 W5 := by
  intro c l h r e
  unfold W5 at e
  split at e
  · exact ⟨P5, by rw [S5_eq]; exact e⟩
  · cases e
/- quietus/arena.Fresh -/
def P6 : Pl := .z
def S6 (_ : CV) (a0 : AV) (h : AH) : R :=
pMM false [a0, (.int .i64 (.ofNat 256))] fun v0 =>
pMM true [(.int .i64 (.ofNat 32)), v0] fun v1 =>
pMake h 24 [(.int .u64 (.ofNat 0))] v1 v1 fun v2 h3 =>
pIdxS v2 (.int .i64 (.ofNat 5)) 1 fun v4 =>
pStore h3 v4 (.int .u64 (.ofNat 14)) 1 fun h5 =>
some (v2, h5)
theorem S6_eq (c : CV) (a0 : AV) (h : AH) : enterK Tryz.prog NN P6 c 6 [a0] h = S6 c a0 h := by kernel_rfl
def W6 (c : CV) (l : List AV) (h : AH) : R := match l with | [a0] => S6 c a0 h | _ => none
theorem W6_ok : WOk Tryz.prog 6 W6 := by
  intro c l h r e
  unfold W6 at e
  split at e
  · exact ⟨P6, by rw [S6_eq]; exact e⟩
  · cases e
/- quietus/judge.After -/
def P7 : Pl := .z
def S7 (c : CV) (a0 a1 : AV) (h : AH) : R :=
pLenS a1 fun v0 =>
pCall c (.fn 15 [] []) [a0, a1, v0] h fun v1 h2 =>
some (v1, h2)
theorem S7_eq (c : CV) (a0 a1 : AV) (h : AH) : enterK Tryz.prog NN P7 c 7 [a0, a1] h = S7 c a0 a1 h := by kernel_rfl
def W7 (c : CV) (l : List AV) (h : AH) : R := match l with | [a0, a1] => S7 c a0 a1 h | _ => none
theorem W7_ok : WOk Tryz.prog 7 W7 := by
  intro c l h r e
  unfold W7 at e
  split at e
  · exact ⟨P7, by rw [S7_eq]; exact e⟩
  · cases e
/- quietus/judge.Serial -/
def P8 : Pl := (.n none .z (.n none .z (.n none (.n none .z (.n none (.n (some [17, 16, 15, 9, 5, 3, 2]) (.n none .z (.n none .z (.n none (.n (some [17, 16, 15, 9, 5, 3, 2]) .z .z) .z))) .z) .z)) .z)))
def S8 (c : CV) (a0 a1 a2 a3 : AV) (h : AH) : R :=
pBox h 28 a1 fun v0 h1 =>
pCall c (.fn 16 [] []) [a0, .nils] h1 fun v2 h3 =>
pCall c (.fn 17 [] []) [a3] h3 fun v4 h5 =>
pLenS v4 fun v6 =>
loopC (σ := AV × AV × AV × AV × AV × AV × AV × Unit) NN (fun i10 s7 h8 d9 =>
pInt .lss s7.1 s7.2.1 fun v11 =>
pCond v11 (
joinC (α := AV × AV × AV × AV × AV × AV × AV × Unit → AH → List Nat → R) (fun s12 h13 d14 =>
pInt .add s12.1 (.int .i64 (.ofNat 1)) fun v16 =>
i10 (v16, s12.2.1, s12.2.2.1, s12.2.2.2.1, s12.2.2.2.2.1, s12.2.2.2.2.2.1, s12.2.2.2.2.2.2.1, ()) h13 d14) fun j15 =>
pIdxS s7.2.2.1 s7.1 1 fun v17 =>
pLoad1 h8 v17 fun v18 =>
pLoadN h8 s7.2.2.2.2.1 8 fun v19 =>
pIdxS s7.2.2.2.2.2.1 v18 14 fun v20 =>
pLoadN h8 v20 14 fun v21 =>
pCall c (.fn 18 [] []) [s7.2.2.2.1, v19, s7.2.2.2.2.2.2.1, v21] h8 fun v22 h23 =>
pUn .not v22 fun v24 =>
pCond v24 (
pLeave d9 h23 fun h25 =>
some ((.bool false), h25)) (
pIdxS s7.2.2.2.2.2.1 v18 14 fun v26 =>
pFieldA v26 4 fun v27 =>
pLoad1 h23 v27 fun v28 =>
pInt .eql v28 (.int .i64 (.ofNat 2)) fun v29 =>
pCond v29 (
pIdxS s7.2.2.2.2.2.1 v18 14 fun v30 =>
pFieldA v30 11 fun v31 =>
pLoad1 h23 v31 fun v32 =>
pCall c (.fn 16 [] []) [s7.2.2.2.1, v32] h23 fun v33 h34 =>
j15 (s7.1, s7.2.1, s7.2.2.1, v33, s7.2.2.2.2.1, s7.2.2.2.2.2.1, s7.2.2.2.2.2.2.1, ()) h34 d9) (
j15 (s7.1, s7.2.1, s7.2.2.1, s7.2.2.2.1, s7.2.2.2.2.1, s7.2.2.2.2.2.1, s7.2.2.2.2.2.2.1, ()) h23 d9))) (
pLeave d9 h8 fun h35 =>
some ((.bool true), h35))) ((.int .i64 (.ofNat 0)), v6, v4, v2, v0, a3, a2, ()) h5 []
theorem S8_eq (c : CV) (a0 a1 a2 a3 : AV) (h : AH) : enterK Tryz.prog NN P8 c 8 [a0, a1, a2, a3] h = S8 c a0 a1 a2 a3 h := by kernel_rfl
def W8 (c : CV) (l : List AV) (h : AH) : R := match l with | [a0, a1, a2, a3] => S8 c a0 a1 a2 a3 h | _ => none
theorem W8_ok : WOk Tryz.prog 8 W8 := by
  intro c l h r e
  unfold W8 at e
  split at e
  · exact ⟨P8, by rw [S8_eq]; exact e⟩
  · cases e
/- quietus/judge.Parts -/
def P9 : Pl := (.n none .z (.n none .z (.n none .z (.n none .z (.n none .z (.n none .z (.n none (.n none .z (.n none (.n (some [36, 35, 34, 8, 5, 1]) (.n none .z (.n none .z (.n none (.n none (.n none .z (.n none .z (.n none (.n (some [42, 41, 40, 36, 35, 34, 8, 5, 1]) .z .z) .z))) .z) .z))) .z) .z)) (.n none (.n none .z (.n none (.n (some [54, 53, 52, 8, 5]) (.n none .z (.n none .z (.n none (.n none (.n none .z (.n none .z (.n none (.n (some [60, 59, 58, 54, 53, 52, 8, 5]) .z .z) .z))) .z) .z))) .z) .z)) (.n none (.n none .z (.n none (.n (some [73, 72, 71, 8]) (.n none .z (.n none .z (.n none (.n none (.n none .z (.n none (.n none (.r [[90, 85, 73, 72, 71, 18, 8]]) .z) .z)) .z) .z))) .z) .z)) .z)))))))))
def S9 (c : CV) (a0 a1 : AV) (h : AH) : R :=
pCall c (.fn 19 [] []) [a0] h fun v0 h1 =>
pExtract v0 0 fun v2 =>
pExtract v0 1 fun v3 =>
pInt .neq v3 (.int .i64 (.ofNat 0)) fun v4 =>
pCond v4 (
some ((.bool false), h1)) (
pCall c (.fn 20 [] []) [a0] h1 fun v5 h6 =>
pExtract v5 0 fun v7 =>
pExtract v5 1 fun v8 =>
pInt .neq v8 (.int .i64 (.ofNat 0)) fun v9 =>
pCond v9 (
some ((.bool false), h6)) (
pMakeMap h6 fun v10 h11 =>
pLenS v7 fun v12 =>
loopC (σ := AV × AV × AV × AV × AV × AV × Unit) NN (fun i16 s13 h14 d15 =>
pInt .lss s13.1 s13.2.1 fun v17 =>
pCond v17 (
pIdxS s13.2.2.1 s13.1 1 fun v18 =>
pLoad1 h14 v18 fun v19 =>
pLenS v19 fun v20 =>
loopC (σ := AV × AV × AV × AV × AV × AV × AV × AV × AV × Unit) NN (fun i24 s21 h22 d23 =>
pInt .lss s21.1 s21.2.1 fun v25 =>
pCond v25 (
pIdxS s21.2.2.1 s21.1 1 fun v26 =>
pLoad1 h22 v26 fun v27 =>
pLookM h22 s21.2.2.2.2.2.2.1 v27 fun v28 =>
pInt .add v28 (.int .i64 (.ofNat 1)) fun v29 =>
pSetM h22 s21.2.2.2.2.2.2.1 v27 v29 fun h30 =>
pInt .add s21.1 (.int .i64 (.ofNat 1)) fun v31 =>
i24 (v31, s21.2.1, s21.2.2.1, s21.2.2.2.1, s21.2.2.2.2.1, s21.2.2.2.2.2.1, s21.2.2.2.2.2.2.1, s21.2.2.2.2.2.2.2.1, s21.2.2.2.2.2.2.2.2.1, ()) h30 d23) (
pInt .add s21.2.2.2.1 (.int .i64 (.ofNat 1)) fun v32 =>
i16 (v32, s21.2.2.2.2.1, s21.2.2.2.2.2.1, s21.2.2.2.2.2.2.1, s21.2.2.2.2.2.2.2.1, s21.2.2.2.2.2.2.2.2.1, ()) h22 d23)) ((.int .i64 (.ofNat 0)), v20, v19, s13.1, s13.2.1, s13.2.2.1, s13.2.2.2.1, s13.2.2.2.2.1, s13.2.2.2.2.2.1, ()) h14 d15) (
pLenS s13.2.2.2.2.2.1 fun v33 =>
loopC (σ := AV × AV × AV × AV × AV × Unit) NN (fun i37 s34 h35 d36 =>
pInt .lss s34.1 s34.2.1 fun v38 =>
pCond v38 (
pIdxS s34.2.2.1 s34.1 1 fun v39 =>
pLoad1 h35 v39 fun v40 =>
pLenS v40 fun v41 =>
loopC (σ := AV × AV × AV × AV × AV × AV × AV × AV × Unit) NN (fun i45 s42 h43 d44 =>
pInt .lss s42.1 s42.2.1 fun v46 =>
pCond v46 (
pIdxS s42.2.2.1 s42.1 2 fun v47 =>
pLoadN h43 v47 2 fun v48 =>
pBox h43 58 (.agg [(.int .i64 (.ofNat 0)), (.int .u64 (.ofNat 0))]) fun v49 h50 =>
pStore h50 v49 v48 2 fun h51 =>
pFieldA v49 0 fun v52 =>
pLoad1 h51 v52 fun v53 =>
pLookM h51 s42.2.2.2.2.2.2.1 v53 fun v54 =>
pInt .add v54 (.int .i64 (.ofNat 1)) fun v55 =>
pSetM h51 s42.2.2.2.2.2.2.1 v53 v55 fun h56 =>
pInt .add s42.1 (.int .i64 (.ofNat 1)) fun v57 =>
i45 (v57, s42.2.1, s42.2.2.1, s42.2.2.2.1, s42.2.2.2.2.1, s42.2.2.2.2.2.1, s42.2.2.2.2.2.2.1, s42.2.2.2.2.2.2.2.1, ()) h56 d44) (
pInt .add s42.2.2.2.1 (.int .i64 (.ofNat 1)) fun v58 =>
i37 (v58, s42.2.2.2.2.1, s42.2.2.2.2.2.1, s42.2.2.2.2.2.2.1, s42.2.2.2.2.2.2.2.1, ()) h43 d44)) ((.int .i64 (.ofNat 0)), v41, v40, s34.1, s34.2.1, s34.2.2.1, s34.2.2.2.1, s34.2.2.2.2.1, ()) h35 d36) (
pLenS s34.2.2.2.2.1 fun v59 =>
loopC (σ := AV × AV × AV × AV × Unit) NN (fun i63 s60 h61 d62 =>
pInt .lss s60.1 s60.2.1 fun v64 =>
pCond v64 (
pIdxS s60.2.2.1 s60.1 3 fun v65 =>
pLoadN h61 v65 3 fun v66 =>
pBox h61 76 (.agg [(.int .i64 (.ofNat 0)), (.int .i64 (.ofNat 0)), (.bool false)]) fun v67 h68 =>
pStore h68 v67 v66 3 fun h69 =>
pFieldA v67 2 fun v70 =>
pLoad1 h69 v70 fun v71 =>
pFieldA v67 0 fun v72 =>
pLoad1 h69 v72 fun v73 =>
pLookM h69 s60.2.2.2.1 v73 fun v74 =>
pInt .eql v74 (.int .i64 (.ofNat 0)) fun v75 =>
pEq .bool true v71 v75 fun v76 =>
joinC (α := AV × AV × AV × AV × AV × AV × AV × Unit → AH → R) (fun s77 h78 =>
pPick s77.2.1 (.bool true) s77.1 fun v80 =>
pCond v80 (
pLeave d62 h78 fun h81 =>
some ((.bool false), h81)) (
pFieldA s77.2.2.2.2.2.1 0 fun v82 =>
pLoad1 h78 v82 fun v83 =>
pDelM h78 s77.2.2.2.2.2.2.1 v83 fun _ h85 =>
pInt .add s77.2.2.1 (.int .i64 (.ofNat 1)) fun v86 =>
i63 (v86, s77.2.2.2.1, s77.2.2.2.2.1, s77.2.2.2.2.2.2.1, ()) h85 d62)) fun j79 =>
pWant v76 false (
pFieldA v67 0 fun v87 =>
pLoad1 h69 v87 fun v88 =>
pLookM h69 s60.2.2.2.1 v88 fun v89 =>
pInt .gtr v89 (.int .i64 (.ofNat 1)) fun v90 =>
j79 (v90, v76, s60.1, s60.2.1, s60.2.2.1, v67, s60.2.2.2.1, ()) h69) (
j79 (.undef, v76, s60.1, s60.2.1, s60.2.2.1, v67, s60.2.2.2.1, ()) h69)) (
pLenM h61 s60.2.2.2.1 fun v91 =>
pInt .eql v91 (.int .i64 (.ofNat 0)) fun v92 =>
pLeave d62 h61 fun h93 =>
some (v92, h93))) ((.int .i64 (.ofNat 0)), v59, s34.2.2.2.2.1, s34.2.2.2.1, ()) h35 d36)) ((.int .i64 (.ofNat 0)), v33, s13.2.2.2.2.2.1, s13.2.2.2.1, s13.2.2.2.2.1, ()) h14 d15)) ((.int .i64 (.ofNat 0)), v12, v7, v10, v2, a1, ()) h11 []))
theorem S9_eq (c : CV) (a0 a1 : AV) (h : AH) : enterK Tryz.prog NN P9 c 9 [a0, a1] h = S9 c a0 a1 h := by kernel_rfl
def W9 (c : CV) (l : List AV) (h : AH) : R := match l with | [a0, a1] => S9 c a0 a1 h | _ => none
theorem W9_ok : WOk Tryz.prog 9 W9 := by
  intro c l h r e
  unfold W9 at e
  split at e
  · exact ⟨P9, by rw [S9_eq]; exact e⟩
  · cases e
/- quietus/judge.Safe -/
def P10 : Pl := (.n none .z (.n none (.n none (.r [[17, 14, 3, 0]]) .z) (.n none .z (.n none .z (.n none (.n none .z (.n none (.n (some [28, 27, 26, 3]) (.n none .z (.n none .z (.n none (.n none (.n none .z (.n none .z (.n none (.n (some [35, 34, 33, 28, 27, 26, 7, 3]) (.n none .z (.n none .z (.n none (.n none (.n none .z (.n none (.r [[52, 35, 34, 33, 28, 27, 26, 7, 3]]) .z)) .z) .z))) .z) .z))) .z) .z))) .z) .z)) .z)))))
def S10 (c : CV) (a0 a1 : AV) (h : AH) : R :=
pBox h 51 a1 fun v0 h1 =>
pFieldA v0 0 fun v2 =>
pLoad1 h1 v2 fun v3 =>
pInt .neq v3 (.int .i64 (.ofNat 2)) fun v4 =>
joinC (α := AV × AV × AV × AV × Unit → AH → R) (fun s5 h6 =>
pPick s5.2.1 s5.1 (.bool false) fun v8 =>
pCond v8 (
some ((.bool true), h6)) (
pCall c (.fn 20 [] []) [s5.2.2.2.1] h6 fun v9 h10 =>
pExtract v9 0 fun v11 =>
pExtract v9 1 fun v12 =>
pInt .neq v12 (.int .i64 (.ofNat 0)) fun v13 =>
pCond v13 (
some ((.bool true), h10)) (
pLenS v11 fun v14 =>
loopC (σ := AV × AV × AV × AV × Unit) NN (fun i18 s15 h16 d17 =>
pInt .lss s15.1 s15.2.1 fun v19 =>
pCond v19 (
pIdxS s15.2.2.1 s15.1 1 fun v20 =>
pLoad1 h16 v20 fun v21 =>
pLenS v21 fun v22 =>
loopC (σ := AV × AV × AV × AV × AV × AV × AV × AV × Unit) NN (fun i26 s23 h24 d25 =>
pInt .lss s23.1 s23.2.1 fun v27 =>
pCond v27 (
pIdxS s23.2.2.1 s23.1 1 fun v28 =>
pLoad1 h24 v28 fun v29 =>
joinC (α := AV × AV × AV × AV × AV × AV × AV × AV × AV × Unit → AH → R) (fun s30 h31 =>
pCond s30.1 (
pLeave d25 h31 fun h33 =>
some ((.bool false), h33)) (
pInt .add s30.2.1 (.int .i64 (.ofNat 1)) fun v34 =>
i26 (v34, s30.2.2.1, s30.2.2.2.1, s30.2.2.2.2.1, s30.2.2.2.2.2.1, s30.2.2.2.2.2.2.1, s30.2.2.2.2.2.2.2.1, s30.2.2.2.2.2.2.2.2.1, ()) h31 d25)) fun j32 =>
pFieldA s23.2.2.2.2.2.2.2.1 1 fun v35 =>
pLoad1 h24 v35 fun v36 =>
pInt .gtr v36 v29 fun v37 =>
pWant v37 true (
pFieldA s23.2.2.2.2.2.2.2.1 1 fun v38 =>
pLoad1 h24 v38 fun v39 =>
pInt .add s23.2.2.2.2.2.2.1 (.int .i64 (.ofNat 1)) fun v40 =>
pCall c (.fn 21 [] []) [v40] h24 fun v41 h42 =>
pInt .add v29 v41 fun v43 =>
pInt .lss v39 v43 fun v44 =>
pPick v37 v44 (.bool false) fun v45 =>
pChk v38 none v39 h24 h42 h24.nx <|
j32 (v45, s23.1, s23.2.1, s23.2.2.1, s23.2.2.2.1, s23.2.2.2.2.1, s23.2.2.2.2.2.1, s23.2.2.2.2.2.2.1, s23.2.2.2.2.2.2.2.1, ()) h42) (
pPick v37 .undef (.bool false) fun v46 =>
j32 (v46, s23.1, s23.2.1, s23.2.2.1, s23.2.2.2.1, s23.2.2.2.2.1, s23.2.2.2.2.2.1, s23.2.2.2.2.2.2.1, s23.2.2.2.2.2.2.2.1, ()) h24)) (
pInt .add s23.2.2.2.1 (.int .i64 (.ofNat 1)) fun v47 =>
i18 (v47, s23.2.2.2.2.1, s23.2.2.2.2.2.1, s23.2.2.2.2.2.2.2.1, ()) h24 d25)) ((.int .i64 (.ofNat 0)), v22, v21, s15.1, s15.2.1, s15.2.2.1, s15.1, s15.2.2.2.1, ()) h16 d17) (
pLeave d17 h16 fun h48 =>
some ((.bool true), h48))) ((.int .i64 (.ofNat 0)), v14, v11, s5.2.2.1, ()) h10 []))) fun j7 =>
pWant v4 true (
pFieldA v0 0 fun v49 =>
pLoad1 h1 v49 fun v50 =>
pInt .neq v50 (.int .i64 (.ofNat 1)) fun v51 =>
j7 (v51, v4, v0, a0, ()) h1) (
j7 (.undef, v4, v0, a0, ()) h1)
theorem S10_eq (c : CV) (a0 a1 : AV) (h : AH) : enterK Tryz.prog NN P10 c 10 [a0, a1] h = S10 c a0 a1 h := by kernel_rfl
def W10 (c : CV) (l : List AV) (h : AH) : R := match l with | [a0, a1] => S10 c a0 a1 h | _ => none
theorem W10_ok : WOk Tryz.prog 10 W10 := by
  intro c l h r e
  unfold W10 at e
  split at e
  · exact ⟨P10, by rw [S10_eq]; exact e⟩
  · cases e
/- quietus/quietuskeep.Words -/
def P11 : Pl := (.n none .z (.n none .z (.n none .z (.n none (.n none .z (.n none (.n (some [8, 7, 2, 1]) (.n none (.n none (.r [[23, 21, 8, 7, 2, 1]]) .z) .z) .z) .z)) (.n none .z (.n none (.n none .z (.n (some [7]) (.n (some [10, 9, 7, 2]) (.n none (.n none (.r [[42, 40, 10, 9, 7, 2]]) .z) (.n none (.n none (.n none .z (.n none .z (.n none .z (.n (some [11, 10, 9, 7, 2]) .z .z)))) .z) .z)) .z) .z)) .z))))))
def S11 (c : CV) (a0 a1 a2 : AV) (h : AH) : R :=
pCall c (.fn 13 [] []) [a0, (.int .i64 (.ofNat 32)), (.int .i64 (.ofNat 80))] h fun v0 h1 =>
pMake h1 24 [(.int .u64 (.ofNat 0))] v0 v0 fun v2 h3 =>
pIdxS v2 (.int .i64 (.ofNat 5)) 1 fun v4 =>
pStore h3 v4 (.int .u64 (.ofNat 14)) 1 fun h5 =>
loopC (σ := AV × AV × AV × AV × Unit) NN (fun i9 s6 h7 d8 =>
pLenS s6.2.2.2.1 fun v10 =>
pInt .lss s6.1 v10 fun v11 =>
joinC (α := AV × AV × AV × AV × AV × AV × Unit → AH → R) (fun s12 h13 =>
pPick s12.2.1 s12.1 (.bool false) fun v15 =>
pCond v15 (
pInt .add (.int .i64 (.ofNat 6)) s12.2.2.1 fun v16 =>
pIdxS s12.2.2.2.2.2.1 s12.2.2.1 1 fun v17 =>
pLoad1 h13 v17 fun v18 =>
pInt .rem v18 (.int .u64 (.ofNat 90)) fun v19 =>
pIdxS s12.2.2.2.1 v16 1 fun v20 =>
pStore h13 v20 v19 1 fun h21 =>
pInt .add s12.2.2.1 (.int .i64 (.ofNat 1)) fun v22 =>
i9 (v22, s12.2.2.2.1, s12.2.2.2.2.1, s12.2.2.2.2.2.1, ()) h21 d8) (
joinC (α := AV × Unit → AH → List Nat → R) (fun s23 h24 d25 =>
pLeave d25 h24 fun h27 =>
some (s23.1, h27)) fun j26 =>
loopC (σ := AV × AV × AV × AV × Unit) NN (fun i31 s28 h29 d30 =>
pLenS s28.2.2.2.1 fun v32 =>
pInt .lss s28.1 v32 fun v33 =>
joinC (α := AV × AV × AV × AV × AV × AV × Unit → AH → R) (fun s34 h35 =>
pPick s34.2.1 s34.1 (.bool false) fun v37 =>
pCond v37 (
pIdxS s34.2.2.2.2.2.1 s34.2.2.1 1 fun v38 =>
pLoad1 h35 v38 fun v39 =>
pInt .rem v39 (.int .u8 (.ofNat 3)) fun v40 =>
pConvI .i64 v40 fun v41 =>
pInt .add v41 (.int .i64 (.ofNat 1)) fun v42 =>
pInt .add s34.2.2.2.1 (.int .i64 (.ofNat 1)) fun v43 =>
pConvI .u64 v42 fun v44 =>
pShift .shl (.int .i64 (.ofNat 1)) v44 fun v45 =>
pInt .add v43 v45 fun v46 =>
pLenS s34.2.2.2.2.1 fun v47 =>
pInt .gtr v46 v47 fun v48 =>
pCond v48 (
j26 (s34.2.2.2.2.1, ()) h35 d30) (
pConvI .u64 v42 fun v49 =>
pIdxS s34.2.2.2.2.1 s34.2.2.2.1 1 fun v50 =>
pStore h35 v50 v49 1 fun h51 =>
joinC (α := AV × AV × AV × AV × AV × Unit → AH → List Nat → R) (fun s52 h53 d54 =>
pInt .add s52.2.2.1 (.int .i64 (.ofNat 1)) fun v56 =>
pConvI .u64 s52.1 fun v57 =>
pShift .shl (.int .i64 (.ofNat 1)) v57 fun v58 =>
pInt .add v56 v58 fun v59 =>
pConvI .u64 v59 fun v60 =>
pIdxS s52.2.2.2.1 (.int .i64 (.ofNat 5)) 1 fun v61 =>
pStore h53 v61 v60 1 fun h62 =>
pInt .add s52.2.1 (.int .i64 (.ofNat 1)) fun v63 =>
i31 (v63, v59, s52.2.2.2.1, s52.2.2.2.2.1, ()) h62 d54) fun j55 =>
pIdxS s34.2.2.2.2.2.1 s34.2.2.1 1 fun v64 =>
pLoad1 h51 v64 fun v65 =>
pInt .and v65 (.int .u8 (.ofNat 16)) fun v66 =>
pInt .gtr v66 (.int .u8 (.ofNat 0)) fun v67 =>
pCond v67 (
pInt .add v42 (.int .i64 (.ofNat 8)) fun v68 =>
pConvI .u64 v68 fun v69 =>
pIdxS s34.2.2.2.2.1 s34.2.2.2.1 1 fun v70 =>
pStore h51 v70 v69 1 fun h71 =>
j55 (v42, s34.2.2.1, s34.2.2.2.1, s34.2.2.2.2.1, s34.2.2.2.2.2.1, ()) h71 d30) (
pIdxS s34.2.2.2.2.2.1 s34.2.2.1 1 fun v72 =>
pLoad1 h51 v72 fun v73 =>
pInt .and v73 (.int .u8 (.ofNat 32)) fun v74 =>
pInt .gtr v74 (.int .u8 (.ofNat 0)) fun v75 =>
pCond v75 (
pInt .add s34.2.2.2.1 (.int .i64 (.ofNat 1)) fun v76 =>
pInt .add (.int .i64 (.ofNat 1)) v42 fun v77 =>
pInt .sub v77 (.int .i64 (.ofNat 1)) fun v78 =>
pIdxS s34.2.2.2.2.1 v78 1 fun v79 =>
pLoad1 h51 v79 fun v80 =>
pIdxS s34.2.2.2.2.1 v76 1 fun v81 =>
pStore h51 v81 v80 1 fun h82 =>
pInt .add (.int .i64 (.ofNat 1)) v42 fun v83 =>
pInt .sub v83 (.int .i64 (.ofNat 1)) fun v84 =>
pInt .add s34.2.2.2.1 (.int .i64 (.ofNat 1)) fun v85 =>
pConvI .u64 v85 fun v86 =>
pIdxS s34.2.2.2.2.1 v84 1 fun v87 =>
pStore h82 v87 v86 1 fun h88 =>
j55 (v42, s34.2.2.1, s34.2.2.2.1, s34.2.2.2.2.1, s34.2.2.2.2.2.1, ()) h88 d30) (
j55 (v42, s34.2.2.1, s34.2.2.2.1, s34.2.2.2.2.1, s34.2.2.2.2.2.1, ()) h51 d30)))) (
j26 (s34.2.2.2.2.1, ()) h35 d30)) fun j36 =>
pWant v33 true (
pInt .lss s28.1 (.int .i64 (.ofNat 8)) fun v89 =>
j36 (v89, v33, s28.1, s28.2.1, s28.2.2.1, s28.2.2.2.1, ()) h29) (
j36 (.undef, v33, s28.1, s28.2.1, s28.2.2.1, s28.2.2.2.1, ()) h29)) ((.int .i64 (.ofNat 0)), (.int .i64 (.ofNat 14)), s12.2.2.2.1, s12.2.2.2.2.1, ()) h13 d8)) fun j14 =>
pWant v11 true (
pInt .lss s6.1 (.int .i64 (.ofNat 8)) fun v90 =>
j14 (v90, v11, s6.1, s6.2.1, s6.2.2.1, s6.2.2.2.1, ()) h7) (
j14 (.undef, v11, s6.1, s6.2.1, s6.2.2.1, s6.2.2.2.1, ()) h7)) ((.int .i64 (.ofNat 0)), v2, a2, a1, ()) h5 []
theorem S11_eq (c : CV) (a0 a1 a2 : AV) (h : AH) : enterK Tryz.prog NN P11 c 11 [a0, a1, a2] h = S11 c a0 a1 a2 h := by kernel_rfl
def W11 (c : CV) (l : List AV) (h : AH) : R := match l with | [a0, a1, a2] => S11 c a0 a1 a2 h | _ => none
theorem W11_ok : WOk Tryz.prog 11 W11 := by
  intro c l h r e
  unfold W11 at e
  split at e
  · exact ⟨P11, by rw [S11_eq]; exact e⟩
  · cases e
/- quietus/quietusref29.Parts -/
def P12 : Pl := (.n none .z (.n none .z (.n none .z (.n none (.n none (.r [[32, 30, 7, 5, 1]]) .z) (.n none .z (.n none (.n none .z (.n none (.n (some [10, 9, 7, 5, 1]) (.n none .z (.n none (.n none (.n none .z (.n (some [11, 10, 9, 7, 5, 1]) .z (.n none (.n none .z (.n none (.n (some [12, 11, 10, 9, 7, 5, 1]) (.n none .z (.n none (.n none (.n none .z (.n none (.n (some [13, 12, 11, 10, 9, 7, 5, 1]) (.n none .z (.n none (.n (some [13, 12, 11, 10, 9, 7, 5, 1]) .z .z) .z)) .z) .z)) .z) .z)) .z) .z)) (.n none (.n none .z (.n none (.n (some [14, 11, 10, 9, 7, 5, 1]) (.n none .z (.n none (.n none (.n none .z (.n none (.n (some [15, 14, 11, 10, 9, 7, 5, 1]) (.n none .z (.n none (.n (some [15, 14, 11, 10, 9, 7, 5, 1]) .z .z) .z)) .z) .z)) .z) .z)) .z) .z)) .z)))) .z) .z)) .z) .z)) (.n none .z (.n none (.n none .z (.n none (.n (some [17, 16, 9, 1]) .z .z) .z)) .z))))))))
def S12 (c : CV) (a0 a1 : AV) (h : AH) : R :=
pCall c (.fn 22 [] []) [a0] h fun v0 h1 =>
pExtract v0 0 fun v2 =>
pExtract v0 1 fun v3 =>
pCall c (.fn 23 [] []) [a0] h1 fun v4 h5 =>
pExtract v4 0 fun v6 =>
pExtract v4 1 fun v7 =>
pUn .not v3 fun v8 =>
joinC (α := AV × AV × AV × AV × AV × Unit → AH → R) (fun s9 h10 =>
pPick s9.2.1 (.bool true) s9.1 fun v12 =>
pCond v12 (
some ((.bool false), h10)) (
loopC (σ := AV × AV × AV × AV × AV × Unit) NN (fun i16 s13 h14 d15 =>
pLenS s13.2.2.2.1 fun v17 =>
pInt .lss s13.1 v17 fun v18 =>
pCond v18 (
joinC (α := AV × AV × AV × AV × AV × AV × Unit → AH → List Nat → R) (fun s19 h20 d21 =>
loopC (σ := AV × AV × AV × AV × AV × AV × AV × Unit) NN (fun i26 s23 h24 d25 =>
pLenS s23.2.2.2.2.1 fun v27 =>
pInt .lss s23.1 v27 fun v28 =>
pCond v28 (
loopC (σ := AV × AV × AV × AV × AV × AV × AV × AV × Unit) NN (fun i32 s29 h30 d31 =>
pIdxS s29.2.2.2.2.2.1 s29.2.1 1 fun v33 =>
pLoad1 h30 v33 fun v34 =>
pLenS v34 fun v35 =>
pInt .lss s29.1 v35 fun v36 =>
pCond v36 (
joinC (α := AV × AV × AV × AV × AV × AV × AV × AV × Unit → AH → List Nat → R) (fun s37 h38 d39 =>
pInt .add s37.1 (.int .i64 (.ofNat 1)) fun v41 =>
i32 (v41, s37.2.1, s37.2.2.1, s37.2.2.2.1, s37.2.2.2.2.1, s37.2.2.2.2.2.1, s37.2.2.2.2.2.2.1, s37.2.2.2.2.2.2.2.1, ()) h38 d39) fun j40 =>
pIdxS s29.2.2.2.2.2.1 s29.2.1 1 fun v42 =>
pLoad1 h30 v42 fun v43 =>
pIdxS v43 s29.1 1 fun v44 =>
pLoad1 h30 v44 fun v45 =>
pIdxS s29.2.2.2.2.2.2.1 s29.2.2.2.1 3 fun v46 =>
pFieldA v46 0 fun v47 =>
pLoad1 h30 v47 fun v48 =>
pInt .eql v45 v48 fun v49 =>
pCond v49 (
pInt .add s29.2.2.1 (.int .i64 (.ofNat 1)) fun v50 =>
j40 (s29.1, s29.2.1, v50, s29.2.2.2.1, s29.2.2.2.2.1, s29.2.2.2.2.2.1, s29.2.2.2.2.2.2.1, s29.2.2.2.2.2.2.2.1, ()) h30 d31) (
j40 (s29.1, s29.2.1, s29.2.2.1, s29.2.2.2.1, s29.2.2.2.2.1, s29.2.2.2.2.2.1, s29.2.2.2.2.2.2.1, s29.2.2.2.2.2.2.2.1, ()) h30 d31)) (
pInt .add s29.2.1 (.int .i64 (.ofNat 1)) fun v51 =>
i26 (v51, s29.2.2.1, s29.2.2.2.1, s29.2.2.2.2.1, s29.2.2.2.2.2.1, s29.2.2.2.2.2.2.1, s29.2.2.2.2.2.2.2.1, ()) h30 d31)) ((.int .i64 (.ofNat 0)), s23.1, s23.2.1, s23.2.2.1, s23.2.2.2.1, s23.2.2.2.2.1, s23.2.2.2.2.2.1, s23.2.2.2.2.2.2.1, ()) h24 d25) (
loopC (σ := AV × AV × AV × AV × AV × AV × AV × Unit) NN (fun i55 s52 h53 d54 =>
pLenS s52.2.2.2.2.2.2.1 fun v56 =>
pInt .lss s52.1 v56 fun v57 =>
pCond v57 (
loopC (σ := AV × AV × AV × AV × AV × AV × AV × AV × Unit) NN (fun i61 s58 h59 d60 =>
pIdxS s58.2.2.2.2.2.2.2.1 s58.2.1 1 fun v62 =>
pLoad1 h59 v62 fun v63 =>
pLenS v63 fun v64 =>
pInt .lss s58.1 v64 fun v65 =>
pCond v65 (
joinC (α := AV × AV × AV × AV × AV × AV × AV × AV × Unit → AH → List Nat → R) (fun s66 h67 d68 =>
pInt .add s66.1 (.int .i64 (.ofNat 1)) fun v70 =>
i61 (v70, s66.2.1, s66.2.2.1, s66.2.2.2.1, s66.2.2.2.2.1, s66.2.2.2.2.2.1, s66.2.2.2.2.2.2.1, s66.2.2.2.2.2.2.2.1, ()) h67 d68) fun j69 =>
pIdxS s58.2.2.2.2.2.2.2.1 s58.2.1 1 fun v71 =>
pLoad1 h59 v71 fun v72 =>
pIdxS v72 s58.1 2 fun v73 =>
pFieldA v73 0 fun v74 =>
pLoad1 h59 v74 fun v75 =>
pIdxS s58.2.2.2.2.2.2.1 s58.2.2.2.1 3 fun v76 =>
pFieldA v76 0 fun v77 =>
pLoad1 h59 v77 fun v78 =>
pInt .eql v75 v78 fun v79 =>
pCond v79 (
pInt .add s58.2.2.1 (.int .i64 (.ofNat 1)) fun v80 =>
pInt .add s58.2.2.2.2.1 (.int .i64 (.ofNat 1)) fun v81 =>
j69 (s58.1, s58.2.1, v80, s58.2.2.2.1, v81, s58.2.2.2.2.2.1, s58.2.2.2.2.2.2.1, s58.2.2.2.2.2.2.2.1, ()) h59 d60) (
j69 (s58.1, s58.2.1, s58.2.2.1, s58.2.2.2.1, s58.2.2.2.2.1, s58.2.2.2.2.2.1, s58.2.2.2.2.2.2.1, s58.2.2.2.2.2.2.2.1, ()) h59 d60)) (
pInt .add s58.2.1 (.int .i64 (.ofNat 1)) fun v82 =>
i55 (v82, s58.2.2.1, s58.2.2.2.1, s58.2.2.2.2.1, s58.2.2.2.2.2.1, s58.2.2.2.2.2.2.1, s58.2.2.2.2.2.2.2.1, ()) h59 d60)) ((.int .i64 (.ofNat 0)), s52.1, s52.2.1, s52.2.2.1, s52.2.2.2.1, s52.2.2.2.2.1, s52.2.2.2.2.2.1, s52.2.2.2.2.2.2.1, ()) h53 d54) (
pInt .neq s52.2.1 (.int .i64 (.ofNat 1)) fun v83 =>
pCond v83 (
pLeave d54 h53 fun h84 =>
some ((.bool false), h84)) (
pInt .add s52.2.2.1 (.int .i64 (.ofNat 1)) fun v85 =>
i16 (v85, s52.2.2.2.1, s52.2.2.2.2.1, s52.2.2.2.2.2.1, s52.2.2.2.2.2.2.1, ()) h53 d54))) ((.int .i64 (.ofNat 0)), s23.2.1, s23.2.2.1, s23.2.2.2.1, s23.2.2.2.2.1, s23.2.2.2.2.2.1, s23.2.2.2.2.2.2.1, ()) h24 d25)) ((.int .i64 (.ofNat 0)), s19.1, s19.2.1, s19.2.2.1, s19.2.2.2.1, s19.2.2.2.2.1, s19.2.2.2.2.2.1, ()) h20 d21) fun j22 =>
pIdxS s13.2.2.2.1 s13.1 3 fun v86 =>
pFieldA v86 2 fun v87 =>
pLoad1 h14 v87 fun v88 =>
pCond v88 (
pInt .add (.int .i64 (.ofNat 0)) (.int .i64 (.ofNat 1)) fun v89 =>
j22 (v89, s13.1, s13.2.1, s13.2.2.1, s13.2.2.2.1, s13.2.2.2.2.1, ()) h14 d15) (
j22 ((.int .i64 (.ofNat 0)), s13.1, s13.2.1, s13.2.2.1, s13.2.2.2.1, s13.2.2.2.2.1, ()) h14 d15)) (
loopC (σ := AV × AV × AV × AV × Unit) NN (fun i93 s90 h91 d92 =>
pLenS s90.2.2.2.1 fun v94 =>
pInt .lss s90.1 v94 fun v95 =>
pCond v95 (
pIdxS s90.2.2.2.1 s90.1 1 fun v96 =>
pLoad1 h91 v96 fun v97 =>
pLenS v97 fun v98 =>
pInt .add s90.2.1 v98 fun v99 =>
pInt .add s90.1 (.int .i64 (.ofNat 1)) fun v100 =>
i93 (v100, v99, s90.2.2.1, s90.2.2.2.1, ()) h91 d92) (
pInt .eql s90.2.2.1 s90.2.1 fun v101 =>
pLeave d92 h91 fun h102 =>
some (v101, h102))) ((.int .i64 (.ofNat 0)), (.int .i64 (.ofNat 0)), s13.2.1, s13.2.2.2.2.1, ()) h14 d15)) ((.int .i64 (.ofNat 0)), (.int .i64 (.ofNat 0)), s9.2.2.1, s9.2.2.2.1, s9.2.2.2.2.1, ()) h10 [])) fun j11 =>
pWant v8 false (
pUn .not v7 fun v103 =>
j11 (v103, v8, v6, v2, a1, ()) h5) (
j11 (.undef, v8, v6, v2, a1, ()) h5)
theorem S12_eq (c : CV) (a0 a1 : AV) (h : AH) : enterK Tryz.prog NN P12 c 12 [a0, a1] h = S12 c a0 a1 h := by kernel_rfl
def W12 (c : CV) (l : List AV) (h : AH) : R := match l with | [a0, a1] => S12 c a0 a1 h | _ => none
theorem W12_ok : WOk Tryz.prog 12 W12 := by
  intro c l h r e
  unfold W12 at e
  split at e
  · exact ⟨P12, by rw [S12_eq]; exact e⟩
  · cases e
/- quietus/quietusbook.Within -/
def P13 : Pl := (.n none .z (.n none .z (.n (some [1, 0]) .z .z)))
def S13 (_ : CV) (a0 a1 a2 : AV) (h : AH) : R :=
pInt .sub a2 a1 fun v0 =>
pInt .add v0 (.int .i64 (.ofNat 1)) fun v1 =>
pInt .rem a0 v1 fun v2 =>
joinC (α := AV × AV × Unit → AH → List Nat → R) (fun s3 h4 d5 =>
pInt .add s3.1 s3.2.1 fun v7 =>
pLeave d5 h4 fun h8 =>
some (v7, h8)) fun j6 =>
pInt .lss v2 (.int .i64 (.ofNat 0)) fun v9 =>
pCond v9 (
pInt .add v2 a2 fun v10 =>
pInt .sub v10 a1 fun v11 =>
pInt .add v11 (.int .i64 (.ofNat 1)) fun v12 =>
j6 (a1, v12, ()) h []) (
j6 (a1, v2, ()) h [])
theorem S13_eq (c : CV) (a0 a1 a2 : AV) (h : AH) : enterK Tryz.prog NN P13 c 13 [a0, a1, a2] h = S13 c a0 a1 a2 h := by kernel_rfl
def W13 (c : CV) (l : List AV) (h : AH) : R := match l with | [a0, a1, a2] => S13 c a0 a1 a2 h | _ => none
theorem W13_ok : WOk Tryz.prog 13 W13 := by
  intro c l h r e
  unfold W13 at e
  split at e
  · exact ⟨P13, by rw [S13_eq]; exact e⟩
  · cases e
/- quietus/quietusref29.Safe -/
def P14 : Pl := (.n none .z (.n none .z (.n none (.n none (.r [[21, 17, 5, 3], [24, 21, 17, 5, 3], [25, 17, 5, 3]]) .z) (.n none (.n none .z (.n none (.n (some [7, 5, 3]) (.n none .z (.n none (.n none (.n none .z (.n none (.n (some [8, 7, 5, 3]) (.n none .z (.n none (.n none (.n none .z (.n none (.r [[62, 8, 7, 5, 3]]) .z)) .z) .z)) .z) .z)) .z) .z)) .z) .z)) .z))))
def S14 (c : CV) (a0 a1 : AV) (h : AH) : R :=
pBox h 51 a1 fun v0 h1 =>
pCall c (.fn 23 [] []) [a0] h1 fun v2 h3 =>
pExtract v2 0 fun v4 =>
pExtract v2 1 fun v5 =>
pUn .not v5 fun v6 =>
joinC (α := AV × AV × AV × AV × Unit → AH → R) (fun s7 h8 =>
joinC (α := AV × AV × AV × AV × AV × Unit → AH → R) (fun s10 h11 =>
joinC (α := AV × AV × AV × AV × Unit → AH → R) (fun s13 h14 =>
pPick s13.2.1 (.bool true) s13.1 fun v16 =>
pCond v16 (
some ((.bool true), h14)) (
loopC (σ := AV × AV × AV × Unit) NN (fun i20 s17 h18 d19 =>
pLenS s17.2.1 fun v21 =>
pInt .lss s17.1 v21 fun v22 =>
pCond v22 (
loopC (σ := AV × AV × AV × AV × Unit) NN (fun i26 s23 h24 d25 =>
pIdxS s23.2.2.1 s23.2.1 1 fun v27 =>
pLoad1 h24 v27 fun v28 =>
pLenS v28 fun v29 =>
pInt .lss s23.1 v29 fun v30 =>
pCond v30 (
pIdxS s23.2.2.1 s23.2.1 1 fun v31 =>
pLoad1 h24 v31 fun v32 =>
pIdxS v32 s23.1 1 fun v33 =>
pLoad1 h24 v33 fun v34 =>
joinC (α := AV × AV × AV × AV × AV × Unit → AH → R) (fun s35 h36 =>
pCond s35.1 (
pLeave d25 h36 fun h38 =>
some ((.bool false), h38)) (
pInt .add s35.2.1 (.int .i64 (.ofNat 1)) fun v39 =>
i26 (v39, s35.2.2.1, s35.2.2.2.1, s35.2.2.2.2.1, ()) h36 d25)) fun j37 =>
pFieldA s23.2.2.2.1 1 fun v40 =>
pLoad1 h24 v40 fun v41 =>
pInt .gtr v41 v34 fun v42 =>
pWant v42 true (
pFieldA s23.2.2.2.1 1 fun v43 =>
pLoad1 h24 v43 fun v44 =>
pInt .add s23.2.1 (.int .i64 (.ofNat 1)) fun v45 =>
pCall c (.fn 24 [] []) [v45] h24 fun v46 h47 =>
pInt .add v34 v46 fun v48 =>
pInt .lss v44 v48 fun v49 =>
pPick v42 v49 (.bool false) fun v50 =>
pChk v43 none v44 h24 h47 h24.nx <|
j37 (v50, s23.1, s23.2.1, s23.2.2.1, s23.2.2.2.1, ()) h47) (
pPick v42 .undef (.bool false) fun v51 =>
j37 (v51, s23.1, s23.2.1, s23.2.2.1, s23.2.2.2.1, ()) h24)) (
pInt .add s23.2.1 (.int .i64 (.ofNat 1)) fun v52 =>
i20 (v52, s23.2.2.1, s23.2.2.2.1, ()) h24 d25)) ((.int .i64 (.ofNat 0)), s17.1, s17.2.1, s17.2.2.1, ()) h18 d19) (
pLeave d19 h18 fun h53 =>
some ((.bool true), h53))) ((.int .i64 (.ofNat 0)), s13.2.2.1, s13.2.2.2.1, ()) h14 [])) fun j15 =>
pWant s10.2.2.1 false (
pPick s10.2.1 s10.1 (.bool false) fun v54 =>
j15 (v54, s10.2.2.1, s10.2.2.2.1, s10.2.2.2.2.1, ()) h11) (
j15 (.undef, s10.2.2.1, s10.2.2.2.1, s10.2.2.2.2.1, ()) h11)) fun j12 =>
pWant s7.1 true (
pFieldA s7.2.2.2.1 0 fun v55 =>
pLoad1 h8 v55 fun v56 =>
pInt .neq v56 (.int .i64 (.ofNat 2)) fun v57 =>
j12 (v57, s7.1, s7.2.1, s7.2.2.1, s7.2.2.2.1, ()) h8) (
j12 (.undef, s7.1, s7.2.1, s7.2.2.1, s7.2.2.2.1, ()) h8)) fun j9 =>
pWant v6 false (
pFieldA v0 0 fun v58 =>
pLoad1 h3 v58 fun v59 =>
pInt .neq v59 (.int .i64 (.ofNat 1)) fun v60 =>
j9 (v60, v6, v4, v0, ()) h3) (
j9 (.undef, v6, v4, v0, ()) h3)
theorem S14_eq (c : CV) (a0 a1 : AV) (h : AH) : enterK Tryz.prog NN P14 c 14 [a0, a1] h = S14 c a0 a1 h := by kernel_rfl
def W14 (c : CV) (l : List AV) (h : AH) : R := match l with | [a0, a1] => S14 c a0 a1 h | _ => none
theorem W14_ok : WOk Tryz.prog 14 W14 := by
  intro c l h r e
  unfold W14 at e
  split at e
  · exact ⟨P14, by rw [S14_eq]; exact e⟩
  · cases e
/- quietus/history.Heap -/
def P15 : Pl := (.n none .z (.n none .z (.n none (.n none .z (.n none (.n (some [21, 20, 19, 7, 1]) (.n none .z (.n none .z (.n none (.n (some [21, 20, 19, 7, 1]) .z .z) .z))) .z) .z)) .z)))
def S15 (c : CV) (a0 a1 a2 : AV) (h : AH) : R :=
pCall c (.fn 16 [] []) [a0, .nils] h fun v0 h1 =>
pCall c (.fn 17 [] []) [a1] h1 fun v2 h3 =>
pLenS a1 fun v4 =>
pMM false [a2, v4] fun v5 =>
pMM true [(.int .i64 (.ofNat 0)), v5] fun v6 =>
pSlice h3 3 1 v2 none (some v6) fun v7 =>
pLenS v7 fun v8 =>
loopC (σ := AV × AV × AV × AV × AV × Unit) NN (fun i12 s9 h10 d11 =>
pInt .lss s9.1 s9.2.1 fun v13 =>
pCond v13 (
joinC (α := AV × AV × AV × AV × AV × Unit → AH → List Nat → R) (fun s14 h15 d16 =>
pInt .add s14.1 (.int .i64 (.ofNat 1)) fun v18 =>
i12 (v18, s14.2.1, s14.2.2.1, s14.2.2.2.1, s14.2.2.2.2.1, ()) h15 d16) fun j17 =>
pIdxS s9.2.2.1 s9.1 1 fun v19 =>
pLoad1 h10 v19 fun v20 =>
pIdxS s9.2.2.2.2.1 v20 14 fun v21 =>
pFieldA v21 4 fun v22 =>
pLoad1 h10 v22 fun v23 =>
pInt .eql v23 (.int .i64 (.ofNat 2)) fun v24 =>
pCond v24 (
pIdxS s9.2.2.2.2.1 v20 14 fun v25 =>
pFieldA v25 11 fun v26 =>
pLoad1 h10 v26 fun v27 =>
pCall c (.fn 16 [] []) [s9.2.2.2.1, v27] h10 fun v28 h29 =>
j17 (s9.1, s9.2.1, s9.2.2.1, v28, s9.2.2.2.2.1, ()) h29 d11) (
j17 (s9.1, s9.2.1, s9.2.2.1, s9.2.2.2.1, s9.2.2.2.2.1, ()) h10 d11)) (
pLeave d11 h10 fun h30 =>
some (s9.2.2.2.1, h30))) ((.int .i64 (.ofNat 0)), v8, v7, v0, a1, ()) h3 []
theorem S15_eq (c : CV) (a0 a1 a2 : AV) (h : AH) : enterK Tryz.prog NN P15 c 15 [a0, a1, a2] h = S15 c a0 a1 a2 h := by kernel_rfl
def W15 (c : CV) (l : List AV) (h : AH) : R := match l with | [a0, a1, a2] => S15 c a0 a1 a2 h | _ => none
theorem W15_ok : WOk Tryz.prog 15 W15 := by
  intro c l h r e
  unfold W15 at e
  split at e
  · exact ⟨P15, by rw [S15_eq]; exact e⟩
  · cases e
/- quietus/model.Apply -/
def P16 : Pl := (.n none .z (.n none .z (.n none .z (.n none (.n none .z (.n none (.n (some [23, 22, 21, 5]) (.n none .z (.n none .z (.n none (.n (some [23, 22, 21, 5]) (.n none .z (.n none (.r [[35, 30, 23, 22, 21, 7, 5]]) .z)) .z) .z))) .z) .z)) .z))))
def S16 (_ : CV) (a0 a1 : AV) (h : AH) : R :=
pLenS a0 fun v0 =>
pMM false [v0, (.int .i64 (.ofNat 256))] fun v1 =>
pMM true [(.int .i64 (.ofNat 32)), v1] fun v2 =>
pMake h 24 [(.int .u64 (.ofNat 0))] v2 v2 fun v3 h4 =>
pSlice h4 24 1 v3 (some (.int .i64 (.ofNat 1))) none fun v5 =>
pLenS a0 fun v6 =>
pMM false [(.int .i64 (.ofNat 1)), v6] fun v7 =>
pSlice h4 24 1 a0 (some v7) none fun v8 =>
pCopy h4 1 v5 v8 fun _ h10 =>
pLenS a1 fun v11 =>
loopC (σ := AV × AV × AV × AV × Unit) NN (fun i15 s12 h13 d14 =>
pInt .lss s12.1 s12.2.1 fun v16 =>
pCond v16 (
joinC (α := AV × AV × AV × AV × Unit → AH → List Nat → R) (fun s17 h18 d19 =>
pInt .add s17.1 (.int .i64 (.ofNat 1)) fun v21 =>
i15 (v21, s17.2.1, s17.2.2.1, s17.2.2.2.1, ()) h18 d19) fun j20 =>
pIdxS s12.2.2.1 s12.1 2 fun v22 =>
pLoadN h13 v22 2 fun v23 =>
pBox h13 35 (.agg [(.int .i64 (.ofNat 0)), (.int .u64 (.ofNat 0))]) fun v24 h25 =>
pStore h25 v24 v23 2 fun h26 =>
pFieldA v24 0 fun v27 =>
pLoad1 h26 v27 fun v28 =>
pInt .geq v28 (.int .i64 (.ofNat 1)) fun v29 =>
joinC (α := AV × AV × AV × AV × AV × AV × AV × Unit → AH → R) (fun s30 h31 =>
pPick s30.2.1 s30.1 (.bool false) fun v33 =>
pCond v33 (
pFieldA s30.2.2.2.2.2.1 0 fun v34 =>
pLoad1 h31 v34 fun v35 =>
pFieldA s30.2.2.2.2.2.1 1 fun v36 =>
pLoad1 h31 v36 fun v37 =>
pIdxS s30.2.2.2.2.2.2.1 v35 1 fun v38 =>
pStore h31 v38 v37 1 fun h39 =>
j20 (s30.2.2.1, s30.2.2.2.1, s30.2.2.2.2.1, s30.2.2.2.2.2.2.1, ()) h39 d14) (
j20 (s30.2.2.1, s30.2.2.2.1, s30.2.2.2.2.1, s30.2.2.2.2.2.2.1, ()) h31 d14)) fun j32 =>
pWant v29 true (
pFieldA v24 0 fun v40 =>
pLoad1 h26 v40 fun v41 =>
pLenS s12.2.2.2.1 fun v42 =>
pInt .lss v41 v42 fun v43 =>
j32 (v43, v29, s12.1, s12.2.1, s12.2.2.1, v24, s12.2.2.2.1, ()) h26) (
j32 (.undef, v29, s12.1, s12.2.1, s12.2.2.1, v24, s12.2.2.2.1, ()) h26)) (
pLeave d14 h13 fun h44 =>
some (s12.2.2.2.1, h44))) ((.int .i64 (.ofNat 0)), v11, a1, v3, ()) h10 []
theorem S16_eq (c : CV) (a0 a1 : AV) (h : AH) : enterK Tryz.prog NN P16 c 16 [a0, a1] h = S16 c a0 a1 h := by kernel_rfl
def W16 (c : CV) (l : List AV) (h : AH) : R := match l with | [a0, a1] => S16 c a0 a1 h | _ => none
theorem W16_ok : WOk Tryz.prog 16 W16 := by
  intro c l h r e
  unfold W16 at e
  split at e
  · exact ⟨P16, by rw [S16_eq]; exact e⟩
  · cases e
/- quietus/history.Order -/
def P17 : Pl := (.n none .z (.n none .z (.n none (.n none .z (.n none (.n (some [10, 9, 3, 1]) .z .z) .z)) .z)))
def S17 (c : CV) (a0 : AV) (h : AH) : R :=
pBox h 42 a0 fun v0 h1 =>
pLoad1 h1 v0 fun v2 =>
pLenS v2 fun v3 =>
pMake h1 3 [(.int .i64 (.ofNat 0))] v3 v3 fun v4 h5 =>
pLenS v4 fun v6 =>
loopC (σ := AV × AV × AV × AV × Unit) NN (fun i10 s7 h8 d9 =>
pInt .lss s7.1 s7.2.1 fun v11 =>
pCond v11 (
pIdxS s7.2.2.1 s7.1 1 fun v12 =>
pStore h8 v12 s7.1 1 fun h13 =>
pInt .add s7.1 (.int .i64 (.ofNat 1)) fun v14 =>
i10 (v14, s7.2.1, s7.2.2.1, s7.2.2.2.1, ()) h13 d9) (
pCall c (.fn 25 [] []) [s7.2.2.1, (.fn 26 [] [s7.2.2.2.1])] h8 fun _ h16 =>
pLeave d9 h16 fun h17 =>
some (s7.2.2.1, h17))) ((.int .i64 (.ofNat 0)), v6, v4, v0, ()) h5 []
theorem S17_eq (c : CV) (a0 : AV) (h : AH) : enterK Tryz.prog NN P17 c 17 [a0] h = S17 c a0 h := by kernel_rfl
def W17 (c : CV) (l : List AV) (h : AH) : R := match l with | [a0] => S17 c a0 h | _ => none
theorem W17_ok : WOk Tryz.prog 17 W17 := by
  intro c l h r e
  unfold W17 at e
  split at e
  · exact ⟨P17, by rw [S17_eq]; exact e⟩
  · cases e
/- quietus/judge.same -/
def P18 : Pl := (.n none .z (.n none (.n none .z (.n none (.n none .z (.n none .z (.n none (.r [[30, 25]]) .z))) .z)) (.n none (.n none (.r [[38, 35, 7, 5, 2, 0], [43, 40, 7, 5, 2, 0], [49, 45, 7, 5, 2, 0], [52, 49, 45, 7, 5, 2, 0], [53, 45, 7, 5, 2, 0]]) .z) (.n none (.n none (.r [[63, 58, 7, 5, 2, 0], [68, 65, 7, 5, 2, 0], [79, 70, 7, 5, 2, 0]]) .z) (.n none .z (.n none .z (.n none (.r [[125, 120, 10, 7], [132, 127]]) .z)))))))
def S18 (c : CV) (a0 a1 a2 a3 : AV) (h : AH) : R :=
pBox h 28 a1 fun v0 h1 =>
pBox h1 40 a3 fun v2 h3 =>
pFieldA v2 3 fun v4 =>
pLoad1 h3 v4 fun v5 =>
pCond v5 (
pFieldA v2 4 fun v6 =>
pLoad1 h3 v6 fun v7 =>
pInt .neq v7 (.int .i64 (.ofNat 2)) fun v8 =>
pCond v8 (
some ((.bool true), h3)) (
pFieldA v2 12 fun v9 =>
pLoad1 h3 v9 fun v10 =>
pFieldA v0 6 fun v11 =>
pLoad1 h3 v11 fun v12 =>
pCall c (.fn 28 [] []) [a0, v10, v12] h3 fun v13 h14 =>
pBox h14 86 (.agg [(.int .i64 (.ofNat 0)), (.int .i64 (.ofNat 0)), (.str []), .nils, .nils, .nils]) fun v15 h16 =>
pStore h16 v15 v13 6 fun h17 =>
pFieldA v15 0 fun v18 =>
pLoad1 h17 v18 fun v19 =>
pInt .eql v19 (.int .i64 (.ofNat 2)) fun v20 =>
joinC (α := AV × AV × Unit → AH → R) (fun s21 h22 =>
pPick s21.2.1 s21.1 (.bool false) fun v24 =>
some (v24, h22)) fun j23 =>
pWant v20 true (
pFieldA v15 3 fun v25 =>
pLoad1 h17 v25 fun v26 =>
pFieldA v2 11 fun v27 =>
pLoad1 h17 v27 fun v28 =>
pCall c (.fn 29 [] []) [v26, v28] h17 fun v29 h30 =>
j23 (v29, v20, ()) h30) (
j23 (.undef, v20, ()) h17))) (
pFieldA v2 4 fun v31 =>
pLoad1 h3 v31 fun v32 =>
pInt .neq v32 (.int .i64 (.ofNat 2)) fun v33 =>
joinC (α := AV × AV × AV × AV × AV × AV × Unit → AH → R) (fun s34 h35 =>
pPick s34.2.1 s34.1 (.bool false) fun v37 =>
joinC (α := AV × AV × AV × AV × AV × AV × Unit → AH → R) (fun s38 h39 =>
pPick s38.2.1 s38.1 (.bool false) fun v41 =>
joinC (α := AV × AV × AV × AV × AV × AV × Unit → AH → R) (fun s42 h43 =>
joinC (α := AV × AV × AV × AV × AV × AV × AV × Unit → AH → R) (fun s45 h46 =>
joinC (α := AV × AV × AV × AV × AV × AV × Unit → AH → R) (fun s48 h49 =>
pPick s48.2.1 (.bool true) s48.1 fun v51 =>
pCond v51 (
some ((.bool true), h49)) (
pFieldA s48.2.2.1 0 fun v52 =>
pLoad1 h49 v52 fun v53 =>
pInt .lss v53 (.int .i64 (.ofNat 0)) fun v54 =>
joinC (α := AV × AV × AV × AV × AV × AV × Unit → AH → R) (fun s55 h56 =>
pPick s55.2.1 (.bool true) s55.1 fun v58 =>
joinC (α := AV × AV × AV × AV × AV × AV × Unit → AH → R) (fun s59 h60 =>
pPick s59.2.1 (.bool true) s59.1 fun v62 =>
joinC (α := AV × AV × AV × AV × AV × AV × Unit → AH → R) (fun s63 h64 =>
pPick s63.2.1 (.bool true) s63.1 fun v66 =>
pCond v66 (
some ((.bool false), h64)) (
pFieldA s63.2.2.1 0 fun v67 =>
pLoad1 h64 v67 fun v68 =>
pIdxS s63.2.2.2.2.1 v68 1 fun v69 =>
pLoad1 h64 v69 fun v70 =>
pFieldA s63.2.2.1 1 fun v71 =>
pLoad1 h64 v71 fun v72 =>
pIdxS v70 v72 1 fun v73 =>
pLoadN h64 v73 1 fun v74 =>
pFieldA s63.2.2.2.1 7 fun v75 =>
pLoad1 h64 v75 fun v76 =>
pFieldA s63.2.2.2.1 6 fun v77 =>
pLoad1 h64 v77 fun v78 =>
pCall c (.fn 30 [] []) [s63.2.2.2.2.2.1, v74, v76, v78] h64 fun v79 h80 =>
pBox h80 86 (.agg [(.int .i64 (.ofNat 0)), (.int .i64 (.ofNat 0)), (.str []), .nils, .nils, .nils]) fun v81 h82 =>
pStore h82 v81 v79 6 fun h83 =>
pFieldA v81 0 fun v84 =>
pLoad1 h83 v84 fun v85 =>
pFieldA s63.2.2.1 4 fun v86 =>
pLoad1 h83 v86 fun v87 =>
pInt .neq v85 v87 fun v88 =>
pCond v88 (
some ((.bool false), h83)) (
pFieldA s63.2.2.1 4 fun v89 =>
pLoad1 h83 v89 fun v90 =>
pInt .eql v90 (.int .i64 (.ofNat 4)) fun v91 =>
pCond v91 (
pFieldA v81 1 fun v92 =>
pLoad1 h83 v92 fun v93 =>
pFieldA s63.2.2.1 5 fun v94 =>
pLoad1 h83 v94 fun v95 =>
pInt .eql v93 v95 fun v96 =>
some (v96, h83)) (
pFieldA s63.2.2.1 4 fun v97 =>
pLoad1 h83 v97 fun v98 =>
pInt .eql v98 (.int .i64 (.ofNat 3)) fun v99 =>
pCond v99 (
some ((.bool true), h83)) (
pFieldA v81 2 fun v100 =>
pLoad1 h83 v100 fun v101 =>
pFieldA s63.2.2.1 13 fun v102 =>
pLoad1 h83 v102 fun v103 =>
pStr .eql v101 v103 fun v104 =>
joinC (α := AV × AV × AV × AV × Unit → AH → R) (fun s105 h106 =>
pPick s105.2.1 s105.1 (.bool false) fun v108 =>
joinC (α := AV × AV × Unit → AH → R) (fun s109 h110 =>
pPick s109.2.1 s109.1 (.bool false) fun v112 =>
some (v112, h110)) fun j111 =>
pWant v108 true (
pFieldA s105.2.2.1 4 fun v113 =>
pLoad1 h106 v113 fun v114 =>
pFieldA s105.2.2.2.1 12 fun v115 =>
pLoad1 h106 v115 fun v116 =>
pCall c (.fn 31 [] []) [v114, v116] h106 fun v117 h118 =>
j111 (v117, v108, ()) h118) (
j111 (.undef, v108, ()) h106)) fun j107 =>
pWant v104 true (
pFieldA v81 3 fun v119 =>
pLoad1 h83 v119 fun v120 =>
pFieldA s63.2.2.1 11 fun v121 =>
pLoad1 h83 v121 fun v122 =>
pCall c (.fn 29 [] []) [v120, v122] h83 fun v123 h124 =>
j107 (v123, v104, v81, s63.2.2.1, ()) h124) (
j107 (.undef, v104, v81, s63.2.2.1, ()) h83)))))) fun j65 =>
pWant v62 false (
pFieldA s59.2.2.1 1 fun v125 =>
pLoad1 h60 v125 fun v126 =>
pFieldA s59.2.2.1 0 fun v127 =>
pLoad1 h60 v127 fun v128 =>
pIdxS s59.2.2.2.2.1 v128 1 fun v129 =>
pLoad1 h60 v129 fun v130 =>
pLenS v130 fun v131 =>
pInt .geq v126 v131 fun v132 =>
j65 (v132, v62, s59.2.2.1, s59.2.2.2.1, s59.2.2.2.2.1, s59.2.2.2.2.2.1, ()) h60) (
j65 (.undef, v62, s59.2.2.1, s59.2.2.2.1, s59.2.2.2.2.1, s59.2.2.2.2.2.1, ()) h60)) fun j61 =>
pWant v58 false (
pFieldA s55.2.2.1 1 fun v133 =>
pLoad1 h56 v133 fun v134 =>
pInt .lss v134 (.int .i64 (.ofNat 0)) fun v135 =>
j61 (v135, v58, s55.2.2.1, s55.2.2.2.1, s55.2.2.2.2.1, s55.2.2.2.2.2.1, ()) h56) (
j61 (.undef, v58, s55.2.2.1, s55.2.2.2.1, s55.2.2.2.2.1, s55.2.2.2.2.2.1, ()) h56)) fun j57 =>
pWant v54 false (
pFieldA s48.2.2.1 0 fun v136 =>
pLoad1 h49 v136 fun v137 =>
pLenS s48.2.2.2.2.1 fun v138 =>
pInt .geq v137 v138 fun v139 =>
j57 (v139, v54, s48.2.2.1, s48.2.2.2.1, s48.2.2.2.2.1, s48.2.2.2.2.2.1, ()) h49) (
j57 (.undef, v54, s48.2.2.1, s48.2.2.2.1, s48.2.2.2.2.1, s48.2.2.2.2.2.1, ()) h49))) fun j50 =>
pWant s45.2.2.1 false (
pPick s45.2.1 s45.1 (.bool false) fun v140 =>
j50 (v140, s45.2.2.1, s45.2.2.2.1, s45.2.2.2.2.1, s45.2.2.2.2.2.1, s45.2.2.2.2.2.2.1, ()) h46) (
j50 (.undef, s45.2.2.1, s45.2.2.2.1, s45.2.2.2.2.1, s45.2.2.2.2.2.1, s45.2.2.2.2.2.2.1, ()) h46)) fun j47 =>
pWant s42.1 true (
pFieldA s42.2.2.1 5 fun v141 =>
pLoad1 h43 v141 fun v142 =>
pInt .eql v142 (.int .i64 (.ofNat 7)) fun v143 =>
j47 (v143, s42.1, s42.2.1, s42.2.2.1, s42.2.2.2.1, s42.2.2.2.2.1, s42.2.2.2.2.2.1, ()) h43) (
j47 (.undef, s42.1, s42.2.1, s42.2.2.1, s42.2.2.2.1, s42.2.2.2.2.1, s42.2.2.2.2.2.1, ()) h43)) fun j44 =>
pWant v41 false (
pFieldA s38.2.2.1 4 fun v144 =>
pLoad1 h39 v144 fun v145 =>
pInt .eql v145 (.int .i64 (.ofNat 4)) fun v146 =>
j44 (v146, v41, s38.2.2.1, s38.2.2.2.1, s38.2.2.2.2.1, s38.2.2.2.2.2.1, ()) h39) (
j44 (.undef, v41, s38.2.2.1, s38.2.2.2.1, s38.2.2.2.2.1, s38.2.2.2.2.2.1, ()) h39)) fun j40 =>
pWant v37 true (
pFieldA s34.2.2.1 4 fun v147 =>
pLoad1 h35 v147 fun v148 =>
pInt .neq v148 (.int .i64 (.ofNat 4)) fun v149 =>
j40 (v149, v37, s34.2.2.1, s34.2.2.2.1, s34.2.2.2.2.1, s34.2.2.2.2.2.1, ()) h35) (
j40 (.undef, v37, s34.2.2.1, s34.2.2.2.1, s34.2.2.2.2.1, s34.2.2.2.2.2.1, ()) h35)) fun j36 =>
pWant v33 true (
pFieldA v2 4 fun v150 =>
pLoad1 h3 v150 fun v151 =>
pInt .neq v151 (.int .i64 (.ofNat 3)) fun v152 =>
j36 (v152, v33, v2, v0, a2, a0, ()) h3) (
j36 (.undef, v33, v2, v0, a2, a0, ()) h3))
theorem S18_eq (c : CV) (a0 a1 a2 a3 : AV) (h : AH) : enterK Tryz.prog NN P18 c 18 [a0, a1, a2, a3] h = S18 c a0 a1 a2 a3 h := by kernel_rfl
def W18 (c : CV) (l : List AV) (h : AH) : R := match l with | [a0, a1, a2, a3] => S18 c a0 a1 a2 a3 h | _ => none
theorem W18_ok : WOk Tryz.prog 18 W18 := by
  intro c l h r e
  unfold W18 at e
  split at e
  · exact ⟨P18, by rw [S18_eq]; exact e⟩
  · cases e
/- quietus/arena.Blocks -/
def P19 : Pl := (.n none .z (.n none .z (.n none (.n none (.r [[17, 15, 4, 0], [23, 19, 4, 0], [31, 25, 0]]) .z) (.n none .z (.n none .z (.n none (.n none .z (.n none (.n (some [7, 6, 5, 0]) (.n none .z (.n none (.n none .z (.n none .z (.n none (.n none (.r [[58, 55, 10, 9, 8, 7, 6, 5, 0]]) .z) .z))) .z)) .z) .z)) .z))))))
def S19 (c : CV) (a0 : AV) (h : AH) : R :=
pLenS a0 fun v0 =>
pInt .lss v0 (.int .i64 (.ofNat 32)) fun v1 =>
joinC (α := AV × AV × AV × AV × Unit → AH → R) (fun s2 h3 =>
pPick s2.2.1 (.bool true) s2.1 fun v5 =>
joinC (α := AV × AV × AV × AV × Unit → AH → R) (fun s6 h7 =>
pPick s6.2.1 (.bool true) s6.1 fun v9 =>
joinC (α := AV × AV × AV × Unit → AH → R) (fun s10 h11 =>
pPick s10.2.1 (.bool true) s10.1 fun v13 =>
pCond v13 (
some ((.tup [.nils, (.int .i64 (.ofNat 12))]), h11)) (
pIdxS s10.2.2.1 (.int .i64 (.ofNat 5)) 1 fun v14 =>
pLoad1 h11 v14 fun v15 =>
pConvI .i64 v15 fun v16 =>
loopC (σ := AV × AV × AV × AV × Unit) NN (fun i20 s17 h18 d19 =>
pInt .lss s17.1 s17.2.2.1 fun v21 =>
pCond v21 (
pIdxS s17.2.2.2.1 s17.1 1 fun v22 =>
pLoad1 h18 v22 fun v23 =>
pCall c (.fn 32 [] []) [v23] h18 fun v24 h25 =>
pExtract v24 0 fun v26 =>
pExtract v24 1 fun v27 =>
pInt .add s17.1 (.int .i64 (.ofNat 1)) fun v28 =>
pCall c (.fn 21 [] []) [v26] h25 fun v29 h30 =>
pInt .add v28 v29 fun v31 =>
pInt .eql v26 (.int .i64 (.ofNat 0)) fun v32 =>
joinC (α := AV × AV × AV × AV × AV × AV × AV × AV × AV × Unit → AH → R) (fun s33 h34 =>
pPick s33.2.1 (.bool true) s33.1 fun v36 =>
pCond v36 (
pLeave d19 h34 fun h37 =>
some ((.tup [.nils, (.int .i64 (.ofNat 12))]), h37)) (
pInt .add s33.2.2.2.2.2.1 (.int .i64 (.ofNat 1)) fun v38 =>
pBuild [(.int .i64 (.ofNat 0)), (.int .i64 (.ofNat 0)), (.bool false)] [(0, 1, v38), (1, 1, s33.2.2.2.2.1), (2, 1, s33.2.2.2.1)] fun v39 =>
pBuildS h34 76 [(.int .i64 (.ofNat 0)), (.int .i64 (.ofNat 0)), (.bool false)] 1 [(0, 3, v39)] fun v40 h41 =>
pAppend h41 76 3 s33.2.2.2.2.2.2.1 v40 fun v42 h43 =>
i20 (s33.2.2.1, v42, s33.2.2.2.2.2.2.2.1, s33.2.2.2.2.2.2.2.2.1, ()) h43 d19)) fun j35 =>
pWant v32 false (
pInt .gtr v31 s17.2.2.1 fun v44 =>
j35 (v44, v32, v31, v27, v26, s17.1, s17.2.1, s17.2.2.1, s17.2.2.2.1, ()) h30) (
j35 (.undef, v32, v31, v27, v26, s17.1, s17.2.1, s17.2.2.1, s17.2.2.2.1, ()) h30)) (
pLeave d19 h18 fun h45 =>
some ((.tup [s17.2.1, (.int .i64 (.ofNat 0))]), h45))) ((.int .i64 (.ofNat 14)), .nils, v16, s10.2.2.1, ()) h11 [])) fun j12 =>
pWant v9 false (
pIdxS s6.2.2.2.1 (.int .i64 (.ofNat 5)) 1 fun v46 =>
pLoad1 h7 v46 fun v47 =>
pConvI .u64 s6.2.2.1 fun v48 =>
pInt .gtr v47 v48 fun v49 =>
j12 (v49, v9, s6.2.2.2.1, ()) h7) (
j12 (.undef, v9, s6.2.2.2.1, ()) h7)) fun j8 =>
pWant v5 false (
pIdxS s2.2.2.2.1 (.int .i64 (.ofNat 5)) 1 fun v50 =>
pLoad1 h3 v50 fun v51 =>
pInt .lss v51 (.int .u64 (.ofNat 14)) fun v52 =>
j8 (v52, v5, s2.2.2.1, s2.2.2.2.1, ()) h3) (
j8 (.undef, v5, s2.2.2.1, s2.2.2.2.1, ()) h3)) fun j4 =>
pWant v1 false (
pInt .gtr v0 (.int .i64 (.ofNat 256)) fun v53 =>
j4 (v53, v1, v0, a0, ()) h) (
j4 (.undef, v1, v0, a0, ()) h)
theorem S19_eq (c : CV) (a0 : AV) (h : AH) : enterK Tryz.prog NN P19 c 19 [a0] h = S19 c a0 h := by kernel_rfl
def W19 (c : CV) (l : List AV) (h : AH) : R := match l with | [a0] => S19 c a0 h | _ => none
theorem W19_ok : WOk Tryz.prog 19 W19 := by
  intro c l h r e
  unfold W19 at e
  split at e
  · exact ⟨P19, by rw [S19_eq]; exact e⟩
  · cases e
/- quietus/arena.Lists -/
def P20 : Pl := (.n none .z (.n none .z (.n none .z (.n none .z (.n none (.n none .z (.n none (.n (some [7, 6, 4, 0]) (.n none .z (.n none (.n none (.n none .z (.n none (.n (some [8, 7, 6, 4, 0]) (.n none .z (.n none (.n none (.n none .z (.n none (.n none (.r [[46, 35, 9, 8, 7, 6, 4, 0]]) .z) (.n none (.r [[9, 8, 7, 6, 4, 0]]) .z))) .z) .z)) .z) .z)) .z) .z)) .z) .z)) .z)))))
def S20 (c : CV) (a0 : AV) (h : AH) : R :=
pCall c (.fn 19 [] []) [a0] h fun v0 h1 =>
pExtract v0 0 fun v2 =>
pExtract v0 1 fun v3 =>
pInt .neq v3 (.int .i64 (.ofNat 0)) fun v4 =>
pCond v4 (
some ((.tup [.nils, v3]), h1)) (
pMake h1 38 [.nils] (.int .i64 (.ofNat 4)) (.int .i64 (.ofNat 4)) fun v5 h6 =>
pBox h6 3 (.int .i64 (.ofNat 0)) fun v7 h8 =>
pStore h8 v7 (.int .i64 (.ofNat 1)) 1 fun h9 =>
loopC (σ := AV × AV × AV × AV × Unit) NN (fun i13 s10 h11 d12 =>
pLoad1 h11 s10.1 fun v14 =>
pInt .leq v14 (.int .i64 (.ofNat 4)) fun v15 =>
pCond v15 (
pLoad1 h11 s10.1 fun v16 =>
pCall c (.fn 33 [] []) [v16] h11 fun v17 h18 =>
pIdxS s10.2.2.2.1 v17 1 fun v19 =>
pLoad1 h18 v19 fun v20 =>
pBox h18 24 (.int .u64 (.ofNat 0)) fun v21 h22 =>
pStore h22 v21 v20 1 fun h23 =>
loopC (σ := AV × AV × AV × AV × AV × Unit) NN (fun i27 s24 h25 d26 =>
pLoad1 h25 s24.1 fun v28 =>
pInt .neq v28 (.int .u64 (.ofNat 0)) fun v29 =>
pCond v29 (
pCall c (.fn 34 [] []) [s24.2.2.2.1, (.fn 35 [] [s24.1, s24.2.1])] h25 fun v30 h31 =>
pInt .lss v30 (.int .i64 (.ofNat 0)) fun v32 =>
joinC (α := AV × AV × AV × AV × AV × AV × AV × AV × Unit → AH → R) (fun s33 h34 =>
pPick s33.2.1 (.bool true) s33.1 fun v36 =>
pCond v36 (
pLeave d26 h34 fun h37 =>
some ((.tup [.nils, (.int .i64 (.ofNat 12))]), h37)) (
joinC (α := AV × AV × AV × AV × AV × AV × Unit → AH → R) (fun s38 h39 =>
pIdxS s38.2.2.2.2.1 s38.1 3 fun v41 =>
pFieldA v41 0 fun v42 =>
pLoad1 h39 v42 fun v43 =>
pIdxS s38.2.2.2.2.2.1 v43 1 fun v44 =>
pLoad1 h39 v44 fun v45 =>
pStore h39 s38.2.1 v45 1 fun h46 =>
pLoad1 h46 s38.2.1 fun v47 =>
pBox h46 24 (.int .u64 (.ofNat 0)) fun v48 h49 =>
pStore h49 v48 v47 1 fun h50 =>
i27 (v48, s38.2.2.1, s38.2.2.2.1, s38.2.2.2.2.1, s38.2.2.2.2.2.1, ()) h50 d26) fun j40 =>
pLoad1 h34 s33.2.2.2.2.1 fun v51 =>
pInt .sub v51 (.int .i64 (.ofNat 1)) fun v52 =>
pLoad1 h34 s33.2.2.2.2.1 fun v53 =>
pInt .sub v53 (.int .i64 (.ofNat 1)) fun v54 =>
pIdxS s33.2.2.2.2.2.1 v54 1 fun v55 =>
pLoad1 h34 v55 fun v56 =>
pIdxS s33.2.2.2.2.2.2.1 s33.2.2.1 3 fun v57 =>
pFieldA v57 0 fun v58 =>
pLoad1 h34 v58 fun v59 =>
pBuildS h34 3 [(.int .i64 (.ofNat 0))] 1 [(0, 1, v59)] fun v60 h61 =>
pAppend h61 3 1 v56 v60 fun v62 h63 =>
pIdxS s33.2.2.2.2.2.1 v52 1 fun v64 =>
pStore h63 v64 v62 1 fun h65 =>
pChk s33.2.2.2.2.1 none v51 h61 h63 h34.nx <|
j40 (s33.2.2.1, s33.2.2.2.1, s33.2.2.2.2.1, s33.2.2.2.2.2.1, s33.2.2.2.2.2.2.1, s33.2.2.2.2.2.2.2.1, ()) h65)) fun j35 =>
pWant v32 false (
pLoad1 h31 s24.2.1 fun v66 =>
pInt .sub v66 (.int .i64 (.ofNat 1)) fun v67 =>
pIdxS s24.2.2.1 v67 1 fun v68 =>
pLoad1 h31 v68 fun v69 =>
pIdxS s24.2.2.2.1 v30 3 fun v70 =>
pFieldA v70 0 fun v71 =>
pLoad1 h31 v71 fun v72 =>
pCall c (.fn 36 [] []) [v69, v72] h31 fun v73 h74 =>
j35 (v73, v32, v30, s24.1, s24.2.1, s24.2.2.1, s24.2.2.2.1, s24.2.2.2.2.1, ()) h74) (
j35 (.undef, v32, v30, s24.1, s24.2.1, s24.2.2.1, s24.2.2.2.1, s24.2.2.2.2.1, ()) h31)) (
pLoad1 h25 s24.2.1 fun v75 =>
pBox h25 3 (.int .i64 (.ofNat 0)) fun v76 h77 =>
pStore h77 v76 v75 1 fun h78 =>
pLoad1 h78 v76 fun v79 =>
pInt .add v79 (.int .i64 (.ofNat 1)) fun v80 =>
pStore h78 v76 v80 1 fun h81 =>
i13 (v76, s24.2.2.1, s24.2.2.2.1, s24.2.2.2.2.1, ()) h81 d26)) (v21, s10.1, s10.2.1, s10.2.2.1, s10.2.2.2.1, ()) h23 d12) (
pLeave d12 h11 fun h82 =>
some ((.tup [s10.2.1, (.int .i64 (.ofNat 0))]), h82))) (v7, v5, v2, a0, ()) h9 [])
theorem S20_eq (c : CV) (a0 : AV) (h : AH) : enterK Tryz.prog NN P20 c 20 [a0] h = S20 c a0 h := by kernel_rfl
def W20 (c : CV) (l : List AV) (h : AH) : R := match l with | [a0] => S20 c a0 h | _ => none
theorem W20_ok : WOk Tryz.prog 20 W20 := by
  intro c l h r e
  unfold W20 at e
  split at e
  · exact ⟨P20, by rw [S20_eq]; exact e⟩
  · cases e
/- quietus/arena.Size -/
def P21 : Pl := (.n none .z (.n none (.n none (.r [[7, 5, 0]]) .z) .z))
def S21 (_ : CV) (a0 : AV) (h : AH) : R :=
pInt .lss a0 (.int .i64 (.ofNat 1)) fun v0 =>
joinC (α := AV × AV × AV × Unit → AH → R) (fun s1 h2 =>
pPick s1.2.1 (.bool true) s1.1 fun v4 =>
pCond v4 (
some ((.int .i64 (.ofNat 0)), h2)) (
pShift .shl (.int .i64 (.ofNat 1)) s1.2.2.1 fun v5 =>
some (v5, h2))) fun j3 =>
pWant v0 false (
pInt .gtr a0 (.int .i64 (.ofNat 4)) fun v6 =>
j3 (v6, v0, a0, ()) h) (
j3 (.undef, v0, a0, ()) h)
theorem S21_eq (c : CV) (a0 : AV) (h : AH) : enterK Tryz.prog NN P21 c 21 [a0] h = S21 c a0 h := by kernel_rfl
def W21 (c : CV) (l : List AV) (h : AH) : R := match l with | [a0] => S21 c a0 h | _ => none
theorem W21_ok : WOk Tryz.prog 21 W21 := by
  intro c l h r e
  unfold W21 at e
  split at e
  · exact ⟨P21, by rw [S21_eq]; exact e⟩
  · cases e
/- quietus/quietusref7.Blocks -/
def P22 : Pl := (.n none .z (.n none (.n none (.r [[15, 12, 0]]) .z) (.n none .z (.n none (.n none (.r [[27, 23, 4, 0]]) .z) (.n none .z (.n none .z (.n none (.n none (.n (some [6, 5, 4, 0]) (.n none .z (.n none (.n none .z (.n none .z (.n none .z (.n none .z (.n (some [8, 6, 5, 4, 0]) .z (.n none (.n none (.r [[64, 56, 8, 6, 5, 4, 0]]) .z) .z)))))) .z)) .z) .z) .z)))))))
def S22 (c : CV) (a0 : AV) (h : AH) : R :=
pLenS a0 fun v0 =>
pInt .lss v0 (.int .i64 (.ofNat 32)) fun v1 =>
joinC (α := AV × AV × AV × Unit → AH → R) (fun s2 h3 =>
pPick s2.2.1 (.bool true) s2.1 fun v5 =>
pCond v5 (
some ((.tup [.nils, (.bool false)]), h3)) (
pIdxS s2.2.2.1 (.int .i64 (.ofNat 5)) 1 fun v6 =>
pLoad1 h3 v6 fun v7 =>
pCall c (.fn 37 [] []) [v7] h3 fun v8 h9 =>
pInt .lss v8 (.int .i64 (.ofNat 14)) fun v10 =>
joinC (α := AV × AV × AV × AV × Unit → AH → R) (fun s11 h12 =>
pPick s11.2.1 (.bool true) s11.1 fun v14 =>
pCond v14 (
some ((.tup [.nils, (.bool false)]), h12)) (
loopC (σ := AV × AV × AV × AV × Unit) NN (fun i18 s15 h16 d17 =>
pInt .lss s15.1 s15.2.2.1 fun v19 =>
pCond v19 (
pIdxS s15.2.2.2.1 s15.1 1 fun v20 =>
pLoad1 h16 v20 fun v21 =>
pInt .add s15.1 (.int .i64 (.ofNat 1)) fun v22 =>
pInt .gtr v21 (.int .u64 (.ofNat 8)) fun v23 =>
pBuild [(.int .i64 (.ofNat 0)), (.int .i64 (.ofNat 0)), (.bool false)] [(0, 1, v22), (2, 1, v23)] fun v24 =>
pBox h16 76 (.agg [(.int .i64 (.ofNat 0)), (.int .i64 (.ofNat 0)), (.bool false)]) fun v25 h26 =>
pStore h26 v25 v24 3 fun h27 =>
pInt .gtr v21 (.int .u64 (.ofNat 16)) fun v28 =>
pCond v28 (
pLeave d17 h27 fun h29 =>
some ((.tup [.nils, (.bool false)]), h29)) (
pConvI .i64 v21 fun v30 =>
pFieldA v25 1 fun v31 =>
pStore h27 v31 v30 1 fun h32 =>
joinC (α := AV × AV × AV × AV × AV × Unit → AH → List Nat → R) (fun s33 h34 d35 =>
pFieldA s33.1 1 fun v37 =>
pLoad1 h34 v37 fun v38 =>
pCall c (.fn 24 [] []) [v38] h34 fun v39 h40 =>
pInt .eql v39 (.int .i64 (.ofNat 0)) fun v41 =>
joinC (α := AV × AV × AV × AV × AV × AV × AV × Unit → AH → R) (fun s42 h43 =>
pPick s42.2.1 (.bool true) s42.1 fun v45 =>
pCond v45 (
pLeave d35 h43 fun h46 =>
some ((.tup [.nils, (.bool false)]), h46)) (
pLoadN h43 s42.2.2.1 3 fun v47 =>
pBuildS h43 76 [(.int .i64 (.ofNat 0)), (.int .i64 (.ofNat 0)), (.bool false)] 1 [(0, 3, v47)] fun v48 h49 =>
pAppend h49 76 3 s42.2.2.2.2.1 v48 fun v50 h51 =>
pInt .add s42.2.2.2.1 (.int .i64 (.ofNat 1)) fun v52 =>
pFieldA s42.2.2.1 1 fun v53 =>
pLoad1 h51 v53 fun v54 =>
pCall c (.fn 24 [] []) [v54] h51 fun v55 h56 =>
pInt .add v52 v55 fun v57 =>
i18 (v57, v50, s42.2.2.2.2.2.1, s42.2.2.2.2.2.2.1, ()) h56 d35)) fun j44 =>
pWant v41 false (
pInt .add s33.2.1 (.int .i64 (.ofNat 1)) fun v58 =>
pFieldA s33.1 1 fun v59 =>
pLoad1 h40 v59 fun v60 =>
pCall c (.fn 24 [] []) [v60] h40 fun v61 h62 =>
pInt .add v58 v61 fun v63 =>
pInt .gtr v63 s33.2.2.2.1 fun v64 =>
j44 (v64, v41, s33.1, s33.2.1, s33.2.2.1, s33.2.2.2.1, s33.2.2.2.2.1, ()) h62) (
j44 (.undef, v41, s33.1, s33.2.1, s33.2.2.1, s33.2.2.2.1, s33.2.2.2.2.1, ()) h40)) fun j36 =>
pFieldA v25 2 fun v65 =>
pLoad1 h32 v65 fun v66 =>
pCond v66 (
pConvI .i64 v21 fun v67 =>
pInt .sub v67 (.int .i64 (.ofNat 8)) fun v68 =>
pFieldA v25 1 fun v69 =>
pStore h32 v69 v68 1 fun h70 =>
j36 (v25, s15.1, s15.2.1, s15.2.2.1, s15.2.2.2.1, ()) h70 d17) (
j36 (v25, s15.1, s15.2.1, s15.2.2.1, s15.2.2.2.1, ()) h32 d17))) (
pLeave d17 h16 fun h71 =>
some ((.tup [s15.2.1, (.bool true)]), h71))) ((.int .i64 (.ofNat 14)), .nils, s11.2.2.1, s11.2.2.2.1, ()) h12 [])) fun j13 =>
pWant v10 false (
pLenS s2.2.2.1 fun v72 =>
pInt .gtr v8 v72 fun v73 =>
j13 (v73, v10, v8, s2.2.2.1, ()) h9) (
j13 (.undef, v10, v8, s2.2.2.1, ()) h9))) fun j4 =>
pWant v1 false (
pLenS a0 fun v74 =>
pInt .gtr v74 (.int .i64 (.ofNat 256)) fun v75 =>
j4 (v75, v1, a0, ()) h) (
j4 (.undef, v1, a0, ()) h)
theorem S22_eq (c : CV) (a0 : AV) (h : AH) : enterK Tryz.prog NN P22 c 22 [a0] h = S22 c a0 h := by kernel_rfl
def W22 (c : CV) (l : List AV) (h : AH) : R := match l with | [a0] => S22 c a0 h | _ => none
theorem W22_ok : WOk Tryz.prog 22 W22 := by
  intro c l h r e
  unfold W22 at e
  split at e
  · exact ⟨P22, by rw [S22_eq]; exact e⟩
  · cases e
/- quietus/quietusref7.Lists -/
def P23 : Pl := (.n none .z (.n none .z (.n none .z (.n none .z (.n none (.n none .z (.n none (.n (some [7, 6, 4, 0]) (.n none .z (.n none (.n none (.n none .z (.n none .z (.n none (.n none (.n (some [9, 8, 7, 6, 4, 0]) (.n none .z (.n none (.n none .z (.n none (.n none .z (.n none (.n (some [11, 10, 9, 8, 7, 6, 4, 0]) (.n none .z (.n none (.n (some [11, 10, 9, 8, 7, 6, 4, 0]) (.n none (.r [[53, 46, 11, 10, 9, 8, 7, 6, 4, 0], [61, 55, 11, 10, 9, 8, 7, 6, 4, 0]]) .z) .z) .z)) .z) .z)) (.n none (.n none .z (.n none (.n (some [12, 10, 9, 8, 7, 6, 4, 0]) (.n none .z (.n none (.n (some [12, 10, 9, 8, 7, 6, 4, 0]) .z .z) .z)) .z) .z)) .z))) .z)) .z) .z) .z))) .z) .z)) .z) .z)) .z)))))
def S23 (c : CV) (a0 : AV) (h : AH) : R :=
pCall c (.fn 22 [] []) [a0] h fun v0 h1 =>
pExtract v0 0 fun v2 =>
pExtract v0 1 fun v3 =>
pUn .not v3 fun v4 =>
pCond v4 (
some ((.tup [.nils, (.bool false)]), h1)) (
loopC (σ := AV × AV × AV × AV × Unit) NN (fun i8 s5 h6 d7 =>
pInt .leq s5.1 (.int .i64 (.ofNat 4)) fun v9 =>
pCond v9 (
pInt .add (.int .i64 (.ofNat 1)) s5.1 fun v10 =>
pInt .sub v10 (.int .i64 (.ofNat 1)) fun v11 =>
pIdxS s5.2.2.2.1 v11 1 fun v12 =>
pLoad1 h6 v12 fun v13 =>
loopC (σ := AV × AV × AV × AV × AV × AV × Unit) NN (fun i17 s14 h15 d16 =>
pInt .neq s14.1 (.int .u64 (.ofNat 0)) fun v18 =>
pCond v18 (
loopC (σ := AV × AV × AV × AV × AV × AV × AV × AV × Unit) NN (fun i22 s19 h20 d21 =>
pLenS s19.2.2.2.2.2.2.1 fun v23 =>
pInt .lss s19.1 v23 fun v24 =>
pCond v24 (
joinC (α := AV × AV × AV × AV × AV × AV × AV × AV × Unit → AH → List Nat → R) (fun s25 h26 d27 =>
pInt .add s25.1 (.int .i64 (.ofNat 1)) fun v29 =>
i22 (v29, s25.2.1, s25.2.2.1, s25.2.2.2.1, s25.2.2.2.2.1, s25.2.2.2.2.2.1, s25.2.2.2.2.2.2.1, s25.2.2.2.2.2.2.2.1, ()) h26 d27) fun j28 =>
pIdxS s19.2.2.2.2.2.2.1 s19.1 3 fun v30 =>
pFieldA v30 0 fun v31 =>
pLoad1 h20 v31 fun v32 =>
pConvI .u64 v32 fun v33 =>
pInt .eql v33 s19.2.2.1 fun v34 =>
joinC (α := AV × AV × AV × AV × AV × AV × AV × AV × AV × AV × Unit → AH → R) (fun s35 h36 =>
pPick s35.2.1 s35.1 (.bool false) fun v38 =>
joinC (α := AV × AV × AV × AV × AV × AV × AV × AV × AV × AV × Unit → AH → R) (fun s39 h40 =>
pPick s39.2.1 s39.1 (.bool false) fun v42 =>
pCond v42 (
j28 (s39.2.2.1, (.bool true), s39.2.2.2.2.1, s39.2.2.2.2.2.1, s39.2.2.2.2.2.2.1, s39.2.2.2.2.2.2.2.1, s39.2.2.2.2.2.2.2.2.1, s39.2.2.2.2.2.2.2.2.2.1, ()) h40 d21) (
j28 (s39.2.2.1, s39.2.2.2.1, s39.2.2.2.2.1, s39.2.2.2.2.2.1, s39.2.2.2.2.2.2.1, s39.2.2.2.2.2.2.2.1, s39.2.2.2.2.2.2.2.2.1, s39.2.2.2.2.2.2.2.2.2.1, ()) h40 d21)) fun j41 =>
pWant v38 true (
pIdxS s35.2.2.2.2.2.2.2.2.1 s35.2.2.1 3 fun v43 =>
pFieldA v43 2 fun v44 =>
pLoad1 h36 v44 fun v45 =>
pUn .not v45 fun v46 =>
j41 (v46, v38, s35.2.2.1, s35.2.2.2.1, s35.2.2.2.2.1, s35.2.2.2.2.2.1, s35.2.2.2.2.2.2.1, s35.2.2.2.2.2.2.2.1, s35.2.2.2.2.2.2.2.2.1, s35.2.2.2.2.2.2.2.2.2.1, ()) h36) (
j41 (.undef, v38, s35.2.2.1, s35.2.2.2.1, s35.2.2.2.2.1, s35.2.2.2.2.2.1, s35.2.2.2.2.2.2.1, s35.2.2.2.2.2.2.2.1, s35.2.2.2.2.2.2.2.2.1, s35.2.2.2.2.2.2.2.2.2.1, ()) h36)) fun j37 =>
pWant v34 true (
pIdxS s19.2.2.2.2.2.2.1 s19.1 3 fun v47 =>
pFieldA v47 1 fun v48 =>
pLoad1 h20 v48 fun v49 =>
pInt .eql v49 s19.2.2.2.2.1 fun v50 =>
j37 (v50, v34, s19.1, s19.2.1, s19.2.2.1, s19.2.2.2.1, s19.2.2.2.2.1, s19.2.2.2.2.2.1, s19.2.2.2.2.2.2.1, s19.2.2.2.2.2.2.2.1, ()) h20) (
j37 (.undef, v34, s19.1, s19.2.1, s19.2.2.1, s19.2.2.2.1, s19.2.2.2.2.1, s19.2.2.2.2.2.1, s19.2.2.2.2.2.2.1, s19.2.2.2.2.2.2.2.1, ()) h20)) (
loopC (σ := AV × AV × AV × AV × AV × AV × AV × AV × Unit) NN (fun i54 s51 h52 d53 =>
pLenS s51.2.2.2.1 fun v55 =>
pInt .lss s51.1 v55 fun v56 =>
pCond v56 (
joinC (α := AV × AV × AV × AV × AV × AV × AV × AV × Unit → AH → List Nat → R) (fun s57 h58 d59 =>
pInt .add s57.1 (.int .i64 (.ofNat 1)) fun v61 =>
i54 (v61, s57.2.1, s57.2.2.1, s57.2.2.2.1, s57.2.2.2.2.1, s57.2.2.2.2.2.1, s57.2.2.2.2.2.2.1, s57.2.2.2.2.2.2.2.1, ()) h58 d59) fun j60 =>
pIdxS s51.2.2.2.1 s51.1 1 fun v62 =>
pLoad1 h52 v62 fun v63 =>
pConvI .u64 v63 fun v64 =>
pInt .eql v64 s51.2.2.1 fun v65 =>
pCond v65 (
j60 (s51.1, (.bool false), s51.2.2.1, s51.2.2.2.1, s51.2.2.2.2.1, s51.2.2.2.2.2.1, s51.2.2.2.2.2.2.1, s51.2.2.2.2.2.2.2.1, ()) h52 d53) (
j60 (s51.1, s51.2.1, s51.2.2.1, s51.2.2.2.1, s51.2.2.2.2.1, s51.2.2.2.2.2.1, s51.2.2.2.2.2.2.1, s51.2.2.2.2.2.2.2.1, ()) h52 d53)) (
pUn .not s51.2.1 fun v66 =>
pCond v66 (
pLeave d53 h52 fun h67 =>
some ((.tup [.nils, (.bool false)]), h67)) (
pConvI .i64 s51.2.2.1 fun v68 =>
pBuildS h52 3 [(.int .i64 (.ofNat 0))] 1 [(0, 1, v68)] fun v69 h70 =>
pAppend h70 3 1 s51.2.2.2.1 v69 fun v71 h72 =>
pConvI .i64 s51.2.2.1 fun v73 =>
pIdxS s51.2.2.2.2.2.2.2.1 v73 1 fun v74 =>
pLoad1 h72 v74 fun v75 =>
i17 (v75, v71, s51.2.2.2.2.1, s51.2.2.2.2.2.1, s51.2.2.2.2.2.2.1, s51.2.2.2.2.2.2.2.1, ()) h72 d53))) ((.int .i64 (.ofNat 0)), s19.2.1, s19.2.2.1, s19.2.2.2.1, s19.2.2.2.2.1, s19.2.2.2.2.2.1, s19.2.2.2.2.2.2.1, s19.2.2.2.2.2.2.2.1, ()) h20 d21)) ((.int .i64 (.ofNat 0)), (.bool false), s14.1, s14.2.1, s14.2.2.1, s14.2.2.2.1, s14.2.2.2.2.1, s14.2.2.2.2.2.1, ()) h15 d16) (
pBuildS h15 38 [.nils] 1 [(0, 1, s14.2.1)] fun v76 h77 =>
pAppend h77 38 1 s14.2.2.2.1 v76 fun v78 h79 =>
pInt .add s14.2.2.1 (.int .i64 (.ofNat 1)) fun v80 =>
i8 (v80, v78, s14.2.2.2.2.1, s14.2.2.2.2.2.1, ()) h79 d16)) (v13, .nils, s5.1, s5.2.1, s5.2.2.1, s5.2.2.2.1, ()) h6 d7) (
pLeave d7 h6 fun h81 =>
some ((.tup [s5.2.1, (.bool true)]), h81))) ((.int .i64 (.ofNat 1)), .nils, v2, a0, ()) h1 [])
theorem S23_eq (c : CV) (a0 : AV) (h : AH) : enterK Tryz.prog NN P23 c 23 [a0] h = S23 c a0 h := by kernel_rfl
def W23 (c : CV) (l : List AV) (h : AH) : R := match l with | [a0] => S23 c a0 h | _ => none
theorem W23_ok : WOk Tryz.prog 23 W23 := by
  intro c l h r e
  unfold W23 at e
  split at e
  · exact ⟨P23, by rw [S23_eq]; exact e⟩
  · cases e
/- quietus/quietusref7.Size -/
def P24 : Pl := (.n none .z (.n none (.n none (.r [[7, 5, 0]]) .z) .z))
def S24 (_ : CV) (a0 : AV) (h : AH) : R :=
pInt .lss a0 (.int .i64 (.ofNat 1)) fun v0 =>
joinC (α := AV × AV × AV × Unit → AH → R) (fun s1 h2 =>
pPick s1.2.1 (.bool true) s1.1 fun v4 =>
pCond v4 (
some ((.int .i64 (.ofNat 0)), h2)) (
pConvI .u64 s1.2.2.1 fun v5 =>
pShift .shl (.int .i64 (.ofNat 1)) v5 fun v6 =>
some (v6, h2))) fun j3 =>
pWant v0 false (
pInt .gtr a0 (.int .i64 (.ofNat 4)) fun v7 =>
j3 (v7, v0, a0, ()) h) (
j3 (.undef, v0, a0, ()) h)
theorem S24_eq (c : CV) (a0 : AV) (h : AH) : enterK Tryz.prog NN P24 c 24 [a0] h = S24 c a0 h := by kernel_rfl
def W24 (c : CV) (l : List AV) (h : AH) : R := match l with | [a0] => S24 c a0 h | _ => none
theorem W24_ok : WOk Tryz.prog 24 W24 := by
  intro c l h r e
  unfold W24 at e
  split at e
  · exact ⟨P24, by rw [S24_eq]; exact e⟩
  · cases e
/- slices.SortStableFunc[[]int,int] -/
def P25 : Pl := .z
def S25 (c : CV) (a0 a1 : AV) (h : AH) : R :=
pLenS a0 fun v0 =>
pCall c (.fn 38 [] []) [a0, v0, a1] h fun _ h2 =>
some ((.tup []), h2)
theorem S25_eq (c : CV) (a0 a1 : AV) (h : AH) : enterK Tryz.prog NN P25 c 25 [a0, a1] h = S25 c a0 a1 h := by kernel_rfl
def W25 (c : CV) (l : List AV) (h : AH) : R := match l with | [a0, a1] => S25 c a0 a1 h | _ => none
theorem W25_ok : WOk Tryz.prog 25 W25 := by
  intro c l h r e
  unfold W25 at e
  split at e
  · exact ⟨P25, by rw [S25_eq]; exact e⟩
  · cases e
/- quietus/history.Order$1 -/
def P26 : Pl := .z
def S26 (c : CV) (a0 a1 a2 : AV) (h : AH) : R :=
pLoad1 h a2 fun v0 =>
pIdxS v0 a0 14 fun v1 =>
pLoadN h v1 14 fun v2 =>
pLoad1 h a2 fun v3 =>
pIdxS v3 a1 14 fun v4 =>
pLoadN h v4 14 fun v5 =>
pCall c (.fn 27 [] []) [v2, v5] h fun v6 h7 =>
pCond v6 (
some ((.int .i64 (.negSucc 0)), h7)) (
pLoad1 h7 a2 fun v8 =>
pIdxS v8 a1 14 fun v9 =>
pLoadN h7 v9 14 fun v10 =>
pLoad1 h7 a2 fun v11 =>
pIdxS v11 a0 14 fun v12 =>
pLoadN h7 v12 14 fun v13 =>
pCall c (.fn 27 [] []) [v10, v13] h7 fun v14 h15 =>
pCond v14 (
some ((.int .i64 (.ofNat 1)), h15)) (
some ((.int .i64 (.ofNat 0)), h15)))
theorem S26_eq (c : CV) (a0 a1 a2 : AV) (h : AH) : enterK Tryz.prog NN P26 c 26 [a0, a1, a2] h = S26 c a0 a1 a2 h := by kernel_rfl
def W26 (c : CV) (l : List AV) (h : AH) : R := match l with | [a0, a1, a2] => S26 c a0 a1 a2 h | _ => none
theorem W26_ok : WOk Tryz.prog 26 W26 := by
  intro c l h r e
  unfold W26 at e
  split at e
  · exact ⟨P26, by rw [S26_eq]; exact e⟩
  · cases e
/- quietus/history.Less -/
def P27 : Pl := (.n none .z (.n none (.n none (.n none .z (.n none .z (.n none (.r [[16, 3, 2]]) .z))) .z) .z))
def S27 (c : CV) (a0 a1 : AV) (h : AH) : R :=
pBox h 40 a0 fun v0 h1 =>
pBox h1 40 a1 fun v2 h3 =>
pFieldA v0 7 fun v4 =>
pLoad1 h3 v4 fun v5 =>
pFieldA v2 7 fun v6 =>
pLoad1 h3 v6 fun v7 =>
pInt .neq v5 v7 fun v8 =>
pCond v8 (
pFieldA v0 7 fun v9 =>
pLoad1 h3 v9 fun v10 =>
pFieldA v2 7 fun v11 =>
pLoad1 h3 v11 fun v12 =>
pInt .lss v10 v12 fun v13 =>
some (v13, h3)) (
joinC (α := AV × AV × AV × Unit → AH → R) (fun s14 h15 =>
pCond s14.1 (
pLoadN h15 s14.2.2.1 14 fun v17 =>
pCall c (.fn 39 [] []) [v17] h15 fun v18 h19 =>
some (v18, h19)) (
pFieldA s14.2.2.1 8 fun v20 =>
pLoad1 h15 v20 fun v21 =>
pFieldA s14.2.1 8 fun v22 =>
pLoad1 h15 v22 fun v23 =>
pInt .lss v21 v23 fun v24 =>
some (v24, h15))) fun j16 =>
pLoadN h3 v0 14 fun v25 =>
pCall c (.fn 39 [] []) [v25] h3 fun v26 h27 =>
pLoadN h27 v2 14 fun v28 =>
pCall c (.fn 39 [] []) [v28] h27 fun v29 h30 =>
pEq .bool true v26 v29 fun v31 =>
pChk v2 (some 14) v28 h3 h27 h3.nx <|
j16 (v31, v2, v0, ()) h30)
theorem S27_eq (c : CV) (a0 a1 : AV) (h : AH) : enterK Tryz.prog NN P27 c 27 [a0, a1] h = S27 c a0 a1 h := by kernel_rfl
def W27 (c : CV) (l : List AV) (h : AH) : R := match l with | [a0, a1] => S27 c a0 a1 h | _ => none
theorem W27_ok : WOk Tryz.prog 27 W27 := by
  intro c l h r e
  unfold W27 at e
  split at e
  · exact ⟨P27, by rw [S27_eq]; exact e⟩
  · cases e
/- quietus/model.Give -/
def P28 : Pl := (.n none .z (.n none .z (.n none (.n none .z (.n none (.n (some [16, 15, 14, 7, 6, 0]) .z .z) .z)) .z)))
def S28 (c : CV) (a0 a1 a2 : AV) (h : AH) : R :=
pBox h 86 (.agg [(.int .i64 (.ofNat 0)), (.int .i64 (.ofNat 0)), (.str []), .nils, .nils, .nils]) fun v0 h1 =>
pCall c (.fn 40 [] []) [a0, a2] h1 fun v2 h3 =>
pLenS a1 fun v4 =>
loopC (σ := AV × AV × AV × AV × AV × AV × Unit) NN (fun i8 s5 h6 d7 =>
pInt .lss s5.1 s5.2.1 fun v9 =>
pCond v9 (
pIdxS s5.2.2.1 s5.1 1 fun v10 =>
pLoad1 h6 v10 fun v11 =>
pCall c (.fn 41 [] []) [s5.2.2.2.1, v11] h6 fun v12 h13 =>
pInt .neq v12 (.int .i64 (.ofNat 0)) fun v14 =>
pCond v14 (
pCall c (.fn 16 [] []) [s5.2.2.2.2.2.1, .nils] h13 fun v15 h16 =>
pBuild [(.int .i64 (.ofNat 0)), (.int .i64 (.ofNat 0)), (.str []), .nils, .nils, .nils] [(0, 1, (.int .i64 (.ofNat 4))), (1, 1, v12), (5, 1, v15)] fun v17 =>
pStore h16 s5.2.2.2.2.1 v17 6 fun h18 =>
pLeave d7 h18 fun h19 =>
pLoadN h19 s5.2.2.2.2.1 6 fun v20 =>
some (v20, h19)) (
pInt .add s5.1 (.int .i64 (.ofNat 1)) fun v21 =>
i8 (v21, s5.2.1, s5.2.2.1, s5.2.2.2.1, s5.2.2.2.2.1, s5.2.2.2.2.2.1, ()) h13 d7)) (
pCall c (.fn 42 [] []) [s5.2.2.2.1] h6 fun v22 h23 =>
pCall c (.fn 42 [] []) [s5.2.2.2.1] h23 fun v24 h25 =>
pCall c (.fn 16 [] []) [s5.2.2.2.2.2.1, v24] h25 fun v26 h27 =>
pBuild [(.int .i64 (.ofNat 0)), (.int .i64 (.ofNat 0)), (.str []), .nils, .nils, .nils] [(0, 1, (.int .i64 (.ofNat 2))), (3, 1, v22), (5, 1, v26)] fun v28 =>
pStore h27 s5.2.2.2.2.1 v28 6 fun h29 =>
pLeave d7 h29 fun h30 =>
pLoadN h30 s5.2.2.2.2.1 6 fun v31 =>
some (v31, h30))) ((.int .i64 (.ofNat 0)), v4, a1, v2, v0, a0, ()) h3 []
theorem S28_eq (c : CV) (a0 a1 a2 : AV) (h : AH) : enterK Tryz.prog NN P28 c 28 [a0, a1, a2] h = S28 c a0 a1 a2 h := by kernel_rfl
def W28 (c : CV) (l : List AV) (h : AH) : R := match l with | [a0, a1, a2] => S28 c a0 a1 a2 h | _ => none
theorem W28_ok : WOk Tryz.prog 28 W28 := by
  intro c l h r e
  unfold W28 at e
  split at e
  · exact ⟨P28, by rw [S28_eq]; exact e⟩
  · cases e
/- slices.Equal[[]quietus/api.Cell,quietus/api.Cell] -/
def P29 : Pl := (.n none .z (.n none .z (.n none (.n none .z (.n none (.n (some [13, 12, 1, 0]) .z .z) .z)) .z)))
def S29 (_ : CV) (a0 a1 : AV) (h : AH) : R :=
pLenS a0 fun v0 =>
pLenS a1 fun v1 =>
pInt .neq v0 v1 fun v2 =>
pCond v2 (
some ((.bool false), h)) (
pLenS a0 fun v3 =>
loopC (σ := AV × AV × AV × AV × Unit) NN (fun i7 s4 h5 d6 =>
pInt .lss s4.1 s4.2.1 fun v8 =>
pCond v8 (
pIdxS s4.2.2.2.1 s4.1 2 fun v9 =>
pLoadN h5 v9 2 fun v10 =>
pIdxS s4.2.2.1 s4.1 2 fun v11 =>
pLoadN h5 v11 2 fun v12 =>
pEqS [.bas .int 0, .bas .int 1] true v10 v12 fun v13 =>
pCond v13 (
pLeave d6 h5 fun h14 =>
some ((.bool false), h14)) (
pInt .add s4.1 (.int .i64 (.ofNat 1)) fun v15 =>
i7 (v15, s4.2.1, s4.2.2.1, s4.2.2.2.1, ()) h5 d6)) (
pLeave d6 h5 fun h16 =>
some ((.bool true), h16))) ((.int .i64 (.ofNat 0)), v3, a1, a0, ()) h [])
theorem S29_eq (c : CV) (a0 a1 : AV) (h : AH) : enterK Tryz.prog NN P29 c 29 [a0, a1] h = S29 c a0 a1 h := by kernel_rfl
def W29 (c : CV) (l : List AV) (h : AH) : R := match l with | [a0, a1] => S29 c a0 a1 h | _ => none
theorem W29_ok : WOk Tryz.prog 29 W29 := by
  intro c l h r e
  unfold W29 at e
  split at e
  · exact ⟨P29, by rw [S29_eq]; exact e⟩
  · cases e
/- quietus/model.Run -/
def P30 : Pl := (.n none .z (.n none .z (.n none .z (.n none .z (.n (some [11, 8, 0]) .z .z)))))
def S30 (c : CV) (a0 a1 a2 a3 : AV) (h : AH) : R :=
pBox h 33 a1 fun v0 h1 =>
pBox h1 86 (.agg [(.int .i64 (.ofNat 0)), (.int .i64 (.ofNat 0)), (.str []), .nils, .nils, .nils]) fun v2 h3 =>
pCall c (.fn 40 [] []) [a0, a3] h3 fun v4 h5 =>
pLoadN h5 v0 1 fun v6 =>
pCall c (.fn 43 [] []) [v6, v4, a2] h5 fun v7 h8 =>
pCall c (.fn 44 [] []) [v7] h8 fun v9 h10 =>
pCall c (.fn 45 [] []) [v7] h10 fun v11 h12 =>
pBuild [(.int .i64 (.ofNat 0)), (.int .i64 (.ofNat 0)), (.str []), .nils, .nils, .nils] [(0, 1, v9), (1, 1, v11)] fun v13 =>
pBox h12 86 (.agg [(.int .i64 (.ofNat 0)), (.int .i64 (.ofNat 0)), (.str []), .nils, .nils, .nils]) fun v14 h15 =>
pStore h15 v14 v13 6 fun h16 =>
joinC (α := AV × AV × AV × Unit → AH → List Nat → R) (fun s17 h18 d19 =>
pFieldA s17.1 3 fun v21 =>
pLoad1 h18 v21 fun v22 =>
pCall c (.fn 16 [] []) [s17.2.2.1, v22] h18 fun v23 h24 =>
pFieldA s17.1 5 fun v25 =>
pStore h24 v25 v23 1 fun h26 =>
pLoadN h26 s17.1 6 fun v27 =>
pStore h26 s17.2.1 v27 6 fun h28 =>
pLeave d19 h28 fun h29 =>
pLoadN h29 s17.2.1 6 fun v30 =>
some (v30, h29)) fun j20 =>
pFieldA v14 0 fun v31 =>
pLoad1 h16 v31 fun v32 =>
pInt .eql v32 (.int .i64 (.ofNat 2)) fun v33 =>
pCond v33 (
pCall c (.fn 46 [] []) [v7] h16 fun v34 h35 =>
pCall c (.fn 47 [] []) [v34] h35 fun v36 h37 =>
pCall c (.fn 42 [] []) [v4] h37 fun v38 h39 =>
pCall c (.fn 48 [] []) [v4] h39 fun v40 h41 =>
pFieldA v14 2 fun v42 =>
pStore h41 v42 v36 1 fun h43 =>
pFieldA v14 3 fun v44 =>
pStore h43 v44 v38 1 fun h45 =>
pFieldA v14 4 fun v46 =>
pStore h45 v46 v40 1 fun h47 =>
j20 (v14, v2, a0, ()) h47 []) (
j20 (v14, v2, a0, ()) h16 [])
theorem S30_eq (c : CV) (a0 a1 a2 a3 : AV) (h : AH) : enterK Tryz.prog NN P30 c 30 [a0, a1, a2, a3] h = S30 c a0 a1 a2 a3 h := by kernel_rfl
def W30 (c : CV) (l : List AV) (h : AH) : R := match l with | [a0, a1, a2, a3] => S30 c a0 a1 a2 a3 h | _ => none
theorem W30_ok : WOk Tryz.prog 30 W30 := by
  intro c l h r e
  unfold W30 at e
  split at e
  · exact ⟨P30, by rw [S30_eq]; exact e⟩
  · cases e
/- slices.Equal[[]int,int] -/
def P31 : Pl := (.n none .z (.n none .z (.n none (.n none .z (.n none (.n (some [13, 12, 1, 0]) .z .z) .z)) .z)))
def S31 (_ : CV) (a0 a1 : AV) (h : AH) : R :=
pLenS a0 fun v0 =>
pLenS a1 fun v1 =>
pInt .neq v0 v1 fun v2 =>
pCond v2 (
some ((.bool false), h)) (
pLenS a0 fun v3 =>
loopC (σ := AV × AV × AV × AV × Unit) NN (fun i7 s4 h5 d6 =>
pInt .lss s4.1 s4.2.1 fun v8 =>
pCond v8 (
pIdxS s4.2.2.2.1 s4.1 1 fun v9 =>
pLoad1 h5 v9 fun v10 =>
pIdxS s4.2.2.1 s4.1 1 fun v11 =>
pLoad1 h5 v11 fun v12 =>
pInt .neq v10 v12 fun v13 =>
pCond v13 (
pLeave d6 h5 fun h14 =>
some ((.bool false), h14)) (
pInt .add s4.1 (.int .i64 (.ofNat 1)) fun v15 =>
i7 (v15, s4.2.1, s4.2.2.1, s4.2.2.2.1, ()) h5 d6)) (
pLeave d6 h5 fun h16 =>
some ((.bool true), h16))) ((.int .i64 (.ofNat 0)), v3, a1, a0, ()) h [])
theorem S31_eq (c : CV) (a0 a1 : AV) (h : AH) : enterK Tryz.prog NN P31 c 31 [a0, a1] h = S31 c a0 a1 h := by kernel_rfl
def W31 (c : CV) (l : List AV) (h : AH) : R := match l with | [a0, a1] => S31 c a0 a1 h | _ => none
theorem W31_ok : WOk Tryz.prog 31 W31 := by
  intro c l h r e
  unfold W31 at e
  split at e
  · exact ⟨P31, by rw [S31_eq]; exact e⟩
  · cases e
/- quietus/arena.header -/
def P32 : Pl := (.n none .z (.n none (.n none (.n none (.r [[9, 7, 0]]) (.n none .z (.n none (.r [[18, 16, 0]]) .z))) .z) .z))
def S32 (_ : CV) (a0 : AV) (h : AH) : R :=
pInt .geq a0 (.int .u64 (.ofNat 1)) fun v0 =>
joinC (α := AV × AV × AV × Unit → AH → R) (fun s1 h2 =>
pPick s1.2.1 s1.1 (.bool false) fun v4 =>
pCond v4 (
pConvI .i64 s1.2.2.1 fun v5 =>
some ((.tup [v5, (.bool false)]), h2)) (
pInt .geq s1.2.2.1 (.int .u64 (.ofNat 9)) fun v6 =>
joinC (α := AV × AV × AV × Unit → AH → R) (fun s7 h8 =>
pPick s7.2.1 s7.1 (.bool false) fun v10 =>
pCond v10 (
pInt .sub s7.2.2.1 (.int .u64 (.ofNat 8)) fun v11 =>
pConvI .i64 v11 fun v12 =>
some ((.tup [v12, (.bool true)]), h8)) (
some ((.tup [(.int .i64 (.ofNat 0)), (.bool false)]), h8))) fun j9 =>
pWant v6 true (
pInt .leq s1.2.2.1 (.int .u64 (.ofNat 12)) fun v13 =>
j9 (v13, v6, s1.2.2.1, ()) h2) (
j9 (.undef, v6, s1.2.2.1, ()) h2))) fun j3 =>
pWant v0 true (
pInt .leq a0 (.int .u64 (.ofNat 4)) fun v14 =>
j3 (v14, v0, a0, ()) h) (
j3 (.undef, v0, a0, ()) h)
theorem S32_eq (c : CV) (a0 : AV) (h : AH) : enterK Tryz.prog NN P32 c 32 [a0] h = S32 c a0 h := by kernel_rfl
def W32 (c : CV) (l : List AV) (h : AH) : R := match l with | [a0] => S32 c a0 h | _ => none
theorem W32_ok : WOk Tryz.prog 32 W32 := by
  intro c l h r e
  unfold W32 at e
  split at e
  · exact ⟨P32, by rw [S32_eq]; exact e⟩
  · cases e
/- quietus/arena.head -/
def P33 : Pl := .z
def S33 (_ : CV) (a0 : AV) (h : AH) : R :=
pInt .add (.int .i64 (.ofNat 0)) a0 fun v0 =>
some (v0, h)
theorem S33_eq (c : CV) (a0 : AV) (h : AH) : enterK Tryz.prog NN P33 c 33 [a0] h = S33 c a0 h := by kernel_rfl
def W33 (c : CV) (l : List AV) (h : AH) : R := match l with | [a0] => S33 c a0 h | _ => none
theorem W33_ok : WOk Tryz.prog 33 W33 := by
  intro c l h r e
  unfold W33 at e
  split at e
  · exact ⟨P33, by rw [S33_eq]; exact e⟩
  · cases e
/- slices.IndexFunc[[]quietus/api.Block,quietus/api.Block] -/
def P34 : Pl := (.n none .z (.n none (.n none .z (.n none (.n (some [8, 7, 1, 0]) .z .z) .z)) .z))
def S34 (c : CV) (a0 a1 : AV) (h : AH) : R :=
pLenS a0 fun v0 =>
loopC (σ := AV × AV × AV × AV × Unit) NN (fun i4 s1 h2 d3 =>
pInt .lss s1.1 s1.2.1 fun v5 =>
pCond v5 (
pIdxS s1.2.2.2.1 s1.1 3 fun v6 =>
pLoadN h2 v6 3 fun v7 =>
pCall c s1.2.2.1 [v7] h2 fun v8 h9 =>
pCond v8 (
pLeave d3 h9 fun h10 =>
some (s1.1, h10)) (
pInt .add s1.1 (.int .i64 (.ofNat 1)) fun v11 =>
i4 (v11, s1.2.1, s1.2.2.1, s1.2.2.2.1, ()) h9 d3)) (
pLeave d3 h2 fun h12 =>
some ((.int .i64 (.negSucc 0)), h12))) ((.int .i64 (.ofNat 0)), v0, a1, a0, ()) h []
theorem S34_eq (c : CV) (a0 a1 : AV) (h : AH) : enterK Tryz.prog NN P34 c 34 [a0, a1] h = S34 c a0 a1 h := by kernel_rfl
def W34 (c : CV) (l : List AV) (h : AH) : R := match l with | [a0, a1] => S34 c a0 a1 h | _ => none
theorem W34_ok : WOk Tryz.prog 34 W34 := by
  intro c l h r e
  unfold W34 at e
  split at e
  · exact ⟨P34, by rw [S34_eq]; exact e⟩
  · cases e
/- quietus/arena.Lists$1 -/
def P35 : Pl := (.n none .z (.n none (.r [[14, 10, 3], [19, 16]]) .z))
def S35 (_ : CV) (a0 a1 a2 : AV) (h : AH) : R :=
pBox h 76 a0 fun v0 h1 =>
pFieldA v0 0 fun v2 =>
pLoad1 h1 v2 fun v3 =>
pConvI .u64 v3 fun v4 =>
pLoad1 h1 a1 fun v5 =>
pInt .eql v4 v5 fun v6 =>
joinC (α := AV × AV × AV × Unit → AH → R) (fun s7 h8 =>
pPick s7.2.1 s7.1 (.bool false) fun v10 =>
joinC (α := AV × AV × Unit → AH → R) (fun s11 h12 =>
pPick s11.2.1 s11.1 (.bool false) fun v14 =>
some (v14, h12)) fun j13 =>
pWant v10 true (
pFieldA s7.2.2.1 2 fun v15 =>
pLoad1 h8 v15 fun v16 =>
pUn .not v16 fun v17 =>
j13 (v17, v10, ()) h8) (
j13 (.undef, v10, ()) h8)) fun j9 =>
pWant v6 true (
pFieldA v0 1 fun v18 =>
pLoad1 h1 v18 fun v19 =>
pLoad1 h1 a2 fun v20 =>
pInt .eql v19 v20 fun v21 =>
j9 (v21, v6, v0, ()) h1) (
j9 (.undef, v6, v0, ()) h1)
theorem S35_eq (c : CV) (a0 a1 a2 : AV) (h : AH) : enterK Tryz.prog NN P35 c 35 [a0, a1, a2] h = S35 c a0 a1 a2 h := by kernel_rfl
def W35 (c : CV) (l : List AV) (h : AH) : R := match l with | [a0, a1, a2] => S35 c a0 a1 a2 h | _ => none
theorem W35_ok : WOk Tryz.prog 35 W35 := by
  intro c l h r e
  unfold W35 at e
  split at e
  · exact ⟨P35, by rw [S35_eq]; exact e⟩
  · cases e
/- slices.Contains[[]int,int] -/
def P36 : Pl := .z
def S36 (c : CV) (a0 a1 : AV) (h : AH) : R :=
pCall c (.fn 49 [] []) [a0, a1] h fun v0 h1 =>
pInt .geq v0 (.int .i64 (.ofNat 0)) fun v2 =>
some (v2, h1)
theorem S36_eq (c : CV) (a0 a1 : AV) (h : AH) : enterK Tryz.prog NN P36 c 36 [a0, a1] h = S36 c a0 a1 h := by kernel_rfl
def W36 (c : CV) (l : List AV) (h : AH) : R := match l with | [a0, a1] => S36 c a0 a1 h | _ => none
theorem W36_ok : WOk Tryz.prog 36 W36 := by
  intro c l h r e
  unfold W36 at e
  split at e
  · exact ⟨P36, by rw [S36_eq]; exact e⟩
  · cases e
/- quietus/quietusref7.place -/
def P37 : Pl := .z
def S37 (_ : CV) (a0 : AV) (h : AH) : R :=
pInt .geq a0 (.int .u64 (.ofNat 2147483648)) fun v0 =>
pCond v0 (
some ((.int .i64 (.negSucc 0)), h)) (
pConvI .i64 a0 fun v1 =>
some (v1, h))
theorem S37_eq (c : CV) (a0 : AV) (h : AH) : enterK Tryz.prog NN P37 c 37 [a0] h = S37 c a0 h := by kernel_rfl
def W37 (c : CV) (l : List AV) (h : AH) : R := match l with | [a0] => S37 c a0 h | _ => none
theorem W37_ok : WOk Tryz.prog 37 W37 := by
  intro c l h r e
  unfold W37 at e
  split at e
  · exact ⟨P37, by rw [S37_eq]; exact e⟩
  · cases e
/- slices.stableCmpFunc[int] -/
def P38 : Pl := (.n none .z (.n none .z (.n none (.n none (.n (some [8, 7, 6, 2, 1, 0]) .z .z) .z) (.n none .z (.n none (.n (some [6, 2, 1, 0]) (.n none .z (.n none (.n none .z (.n none (.n none (.n (some [8, 7, 6, 2, 1, 0]) .z .z) .z) (.n (some [6, 2, 1, 0]) .z .z))) .z)) .z) .z)))))
def S38 (c : CV) (a0 a1 a2 : AV) (h : AH) : R :=
loopC (σ := AV × AV × AV × AV × AV × AV × Unit) NN (fun i3 s0 h1 d2 =>
pInt .leq s0.1 s0.2.2.2.2.1 fun v4 =>
pCond v4 (
pCall c (.fn 50 [] []) [s0.2.2.2.2.2.1, s0.2.1, s0.1, s0.2.2.2.1] h1 fun _ h6 =>
pInt .add s0.1 s0.2.2.1 fun v7 =>
i3 (v7, s0.1, s0.2.2.1, s0.2.2.2.1, s0.2.2.2.2.1, s0.2.2.2.2.2.1, ()) h6 d2) (
pCall c (.fn 50 [] []) [s0.2.2.2.2.2.1, s0.2.1, s0.2.2.2.2.1, s0.2.2.2.1] h1 fun _ h9 =>
loopC (σ := AV × AV × AV × AV × Unit) NN (fun i13 s10 h11 d12 =>
pInt .lss s10.1 s10.2.2.1 fun v14 =>
pCond v14 (
pInt .mul (.int .i64 (.ofNat 2)) s10.1 fun v15 =>
loopC (σ := AV × AV × AV × AV × AV × AV × Unit) NN (fun i19 s16 h17 d18 =>
pInt .leq s16.1 s16.2.2.2.2.1 fun v20 =>
pCond v20 (
pInt .add s16.2.1 s16.2.2.1 fun v21 =>
pCall c (.fn 51 [] []) [s16.2.2.2.2.2.1, s16.2.1, v21, s16.1, s16.2.2.2.1] h17 fun _ h23 =>
pInt .mul (.int .i64 (.ofNat 2)) s16.2.2.1 fun v24 =>
pInt .add s16.1 v24 fun v25 =>
i19 (v25, s16.1, s16.2.2.1, s16.2.2.2.1, s16.2.2.2.2.1, s16.2.2.2.2.2.1, ()) h23 d18) (
joinC (α := AV × AV × AV × AV × Unit → AH → List Nat → R) (fun s26 h27 d28 =>
pInt .mul s26.1 (.int .i64 (.ofNat 2)) fun v30 =>
i13 (v30, s26.2.1, s26.2.2.1, s26.2.2.2.1, ()) h27 d28) fun j29 =>
pInt .add s16.2.1 s16.2.2.1 fun v31 =>
pInt .lss v31 s16.2.2.2.2.1 fun v32 =>
pCond v32 (
pCall c (.fn 51 [] []) [s16.2.2.2.2.2.1, s16.2.1, v31, s16.2.2.2.2.1, s16.2.2.2.1] h17 fun _ h34 =>
j29 (s16.2.2.1, s16.2.2.2.1, s16.2.2.2.2.1, s16.2.2.2.2.2.1, ()) h34 d18) (
j29 (s16.2.2.1, s16.2.2.2.1, s16.2.2.2.2.1, s16.2.2.2.2.2.1, ()) h17 d18))) (v15, (.int .i64 (.ofNat 0)), s10.1, s10.2.1, s10.2.2.1, s10.2.2.2.1, ()) h11 d12) (
pLeave d12 h11 fun h35 =>
some ((.tup []), h35))) (s0.2.2.1, s0.2.2.2.1, s0.2.2.2.2.1, s0.2.2.2.2.2.1, ()) h9 d2)) ((.int .i64 (.ofNat 20)), (.int .i64 (.ofNat 0)), (.int .i64 (.ofNat 20)), a2, a1, a0, ()) h []
theorem S38_eq (c : CV) (a0 a1 a2 : AV) (h : AH) : enterK Tryz.prog NN P38 c 38 [a0, a1, a2] h = S38 c a0 a1 a2 h := by kernel_rfl
def W38 (c : CV) (l : List AV) (h : AH) : R := match l with | [a0, a1, a2] => S38 c a0 a1 a2 h | _ => none
theorem W38_ok : WOk Tryz.prog 38 W38 := by
  intro c l h r e
  unfold W38 at e
  split at e
  · exact ⟨P38, by rw [S38_eq]; exact e⟩
  · cases e
/- quietus/history.wrote -/
def P39 : Pl := (.n none .z (.n none (.r [[10, 6]]) .z))
def S39 (_ : CV) (a0 : AV) (h : AH) : R :=
pBox h 40 a0 fun v0 h1 =>
pFieldA v0 4 fun v2 =>
pLoad1 h1 v2 fun v3 =>
pInt .eql v3 (.int .i64 (.ofNat 2)) fun v4 =>
joinC (α := AV × AV × Unit → AH → R) (fun s5 h6 =>
pPick s5.2.1 s5.1 (.bool false) fun v8 =>
some (v8, h6)) fun j7 =>
pWant v4 true (
pFieldA v0 11 fun v9 =>
pLoad1 h1 v9 fun v10 =>
pLenS v10 fun v11 =>
pInt .gtr v11 (.int .i64 (.ofNat 0)) fun v12 =>
j7 (v12, v4, ()) h1) (
j7 (.undef, v4, ()) h1)
theorem S39_eq (c : CV) (a0 : AV) (h : AH) : enterK Tryz.prog NN P39 c 39 [a0] h = S39 c a0 h := by kernel_rfl
def W39 (c : CV) (l : List AV) (h : AH) : R := match l with | [a0] => S39 c a0 h | _ => none
theorem W39_ok : WOk Tryz.prog 39 W39 := by
  intro c l h r e
  unfold W39 at e
  split at e
  · exact ⟨P39, by rw [S39_eq]; exact e⟩
  · cases e
/- quietus/view.Whole -/
def P40 : Pl := (.n none .z (.n none .z (.n none (.n none .z (.n none (.n (some [6, 5, 0]) (.n none .z (.n none (.n none (.n none .z (.n (some [7, 6, 5, 0]) .z .z)) .z) .z)) .z) .z)) .z)))
def S40 (c : CV) (a0 a1 : AV) (h : AH) : R :=
pLenS a0 fun v0 =>
pCall c (.fn 52 [] []) [v0, a1] h fun v1 h2 =>
loopC (σ := AV × AV × AV × Unit) NN (fun i6 s3 h4 d5 =>
pCall c (.fn 53 [] []) [s3.2.1] h4 fun v7 h8 =>
pInt .lss s3.1 v7 fun v9 =>
pCond v9 (
joinC (α := AV × AV × AV × AV × Unit → AH → List Nat → R) (fun s10 h11 d12 =>
pCall c (.fn 54 [] []) [s10.2.2.1, s10.2.1, s10.1] h11 fun _ h15 =>
pInt .add s10.2.1 (.int .i64 (.ofNat 1)) fun v16 =>
i6 (v16, s10.2.2.1, s10.2.2.2.1, ()) h15 d12) fun j13 =>
pLenS s3.2.2.1 fun v17 =>
pInt .lss s3.1 v17 fun v18 =>
pCond v18 (
pIdxS s3.2.2.1 s3.1 1 fun v19 =>
pLoad1 h8 v19 fun v20 =>
j13 (v20, s3.1, s3.2.1, s3.2.2.1, ()) h8 d5) (
j13 ((.int .u64 (.ofNat 0)), s3.1, s3.2.1, s3.2.2.1, ()) h8 d5)) (
pLeave d5 h8 fun h21 =>
some (s3.2.1, h21))) ((.int .i64 (.ofNat 1)), v1, a0, ()) h2 []
theorem S40_eq (c : CV) (a0 a1 : AV) (h : AH) : enterK Tryz.prog NN P40 c 40 [a0, a1] h = S40 c a0 a1 h := by kernel_rfl
def W40 (c : CV) (l : List AV) (h : AH) : R := match l with | [a0, a1] => S40 c a0 a1 h | _ => none
theorem W40_ok : WOk Tryz.prog 40 W40 := by
  intro c l h r e
  unfold W40 at e
  split at e
  · exact ⟨P40, by rw [S40_eq]; exact e⟩
  · cases e
/- quietus/arena.Give -/
def P41 : Pl := (.n none .z (.n none .z (.n (some [7, 5, 1, 0]) (.n none (.r [[19, 18, 7, 5, 1, 0]]) .z) .z)))
def S41 (c : CV) (a0 a1 : AV) (h : AH) : R :=
pCall c (.fn 55 [] []) [a0, a1] h fun v0 h1 =>
pExtract v0 0 fun v2 =>
pExtract v0 1 fun v3 =>
pExtract v0 2 fun v4 =>
joinC (α := AV × AV × AV × AV × Unit → AH → List Nat → R) (fun s5 h6 d7 =>
pInt .neq s5.1 (.int .i64 (.ofNat 0)) fun v9 =>
pCond v9 (
pLeave d7 h6 fun h10 =>
some (s5.1, h10)) (
pCall c (.fn 33 [] []) [s5.2.1] h6 fun v11 h12 =>
pCall c (.fn 56 [] []) [s5.2.2.2.1, v11] h12 fun v13 h14 =>
pExtract v13 0 fun v15 =>
pExtract v13 1 fun v16 =>
pInt .neq v16 (.int .i64 (.ofNat 0)) fun v17 =>
pCond v17 (
pLeave d7 h14 fun h18 =>
some (v16, h18)) (
pBuild [(.int .i64 (.ofNat 0)), (.int .u64 (.ofNat 0))] [(0, 1, s5.2.2.1), (1, 1, v15)] fun v19 =>
pCall c (.fn 33 [] []) [s5.2.1] h14 fun v20 h21 =>
pConvI .u64 s5.2.2.1 fun v22 =>
pBuild [(.int .i64 (.ofNat 0)), (.int .u64 (.ofNat 0))] [(0, 1, v20), (1, 1, v22)] fun v23 =>
pBuildS h21 35 [(.int .i64 (.ofNat 0)), (.int .u64 (.ofNat 0))] 2 [(0, 2, v19), (2, 2, v23)] fun v24 h25 =>
pCall c (.fn 57 [] []) [s5.2.2.2.1, v24] h25 fun v26 h27 =>
pLeave d7 h27 fun h28 =>
some (v26, h28)))) fun j8 =>
pInt .eql v4 (.int .i64 (.ofNat 0)) fun v29 =>
joinC (α := AV × AV × AV × AV × AV × AV × Unit → AH → R) (fun s30 h31 =>
pPick s30.2.1 s30.1 (.bool false) fun v33 =>
pCond v33 (
j8 ((.int .i64 (.ofNat 2)), s30.2.2.2.1, s30.2.2.2.2.1, s30.2.2.2.2.2.1, ()) h31 []) (
j8 (s30.2.2.1, s30.2.2.2.1, s30.2.2.2.2.1, s30.2.2.2.2.2.1, ()) h31 [])) fun j32 =>
pWant v29 true (
j32 (v3, v29, v4, v2, a1, a0, ()) h1) (
j32 (.undef, v29, v4, v2, a1, a0, ()) h1)
theorem S41_eq (c : CV) (a0 a1 : AV) (h : AH) : enterK Tryz.prog NN P41 c 41 [a0, a1] h = S41 c a0 a1 h := by kernel_rfl
def W41 (c : CV) (l : List AV) (h : AH) : R := match l with | [a0, a1] => S41 c a0 a1 h | _ => none
theorem W41_ok : WOk Tryz.prog 41 W41 := by
  intro c l h r e
  unfold W41 at e
  split at e
  · exact ⟨P41, by rw [S41_eq]; exact e⟩
  · cases e
/- (*quietus/view.View).Cells -/
def P42 : Pl := .z
def S42 (c : CV) (a0 : AV) (h : AH) : R :=
pNil a0 fun v0 =>
pFieldA v0 2 fun v1 =>
pLoad1 h v1 fun v2 =>
pCall c (.fn 58 [] []) [v2] h fun v3 h4 =>
some (v3, h4)
theorem S42_eq (c : CV) (a0 : AV) (h : AH) : enterK Tryz.prog NN P42 c 42 [a0] h = S42 c a0 h := by kernel_rfl
def W42 (c : CV) (l : List AV) (h : AH) : R := match l with | [a0] => S42 c a0 h | _ => none
theorem W42_ok : WOk Tryz.prog 42 W42 := by
  intro c l h r e
  unfold W42 at e
  split at e
  · exact ⟨P42, by rw [S42_eq]; exact e⟩
  · cases e
/- quietus/interp.New -/
def P43 : Pl := (.n none .z (.n none .z (.n none .z (.n none (.r [[6]]) .z))))
def S43 (c : CV) (a0 a1 a2 : AV) (h : AH) : R :=
pBox h 33 a0 fun v0 h1 =>
pFieldA v0 0 fun v2 =>
pLoad1 h1 v2 fun v3 =>
pAppend h1 30 5 .nils v3 fun v4 h5 =>
pFieldA v0 0 fun v6 =>
pStore h5 v6 v4 1 fun h7 =>
pLoadN h7 v0 1 fun v8 =>
pCall c (.fn 59 [] []) [v8] h7 fun v9 h10 =>
pExtract v9 0 fun _ =>
pExtract v9 1 fun v12 =>
joinC (α := AV × Unit → AH → R) (fun s13 h14 =>
some (s13.1, h14)) fun j15 =>
pLoadN h10 v0 1 fun v16 =>
pLoadN h10 v0 1 fun v17 =>
pCall c (.fn 60 [] []) [v17] h10 fun v18 h19 =>
pCall c (.fn 61 [] []) [] h19 fun v20 h21 =>
pMM false [a2, (.int .i64 (.ofNat 400))] fun v22 =>
pMM true [(.int .i64 (.ofNat 0)), v22] fun v23 =>
pBuild [.nils, .nilp, .nils, (.int .i64 (.ofNat 0)), (.int .i64 (.ofNat 0)), (.int .i64 (.ofNat 0)), (.int .u64 (.ofNat 0)), (.int .u64 (.ofNat 0)), (.int .u64 (.ofNat 0)), (.int .u64 (.ofNat 0)), (.int .u64 (.ofNat 0)), (.int .u64 (.ofNat 0)), (.int .u64 (.ofNat 0)), (.int .u64 (.ofNat 0)), .nilp, (.int .i64 (.ofNat 0)), (.int .i64 (.ofNat 0)), (.int .i64 (.ofNat 0)), .nils] [(0, 1, v16), (1, 1, a1), (2, 1, v18), (3, 1, v12), (14, 1, v20), (17, 1, v23)] fun v24 =>
pBox h21 131 v24 fun v25 h26 =>
pChk v0 (some 1) v16 h19 h21 h10.nx <|
pChk v0 (some 1) v16 h10 h19 h10.nx <|
j15 (v25, ()) h26
theorem S43_eq (c : CV) (a0 a1 a2 : AV) (h : AH) : enterK Tryz.prog NN P43 c 43 [a0, a1, a2] h = S43 c a0 a1 a2 h := by kernel_rfl
def W43 (c : CV) (l : List AV) (h : AH) : R := match l with | [a0, a1, a2] => S43 c a0 a1 a2 h | _ => none
theorem W43_ok : WOk Tryz.prog 43 W43 := by
  intro c l h r e
  unfold W43 at e
  split at e
  · exact ⟨P43, by rw [S43_eq]; exact e⟩
  · cases e
/- (*quietus/interp.Interp).Run -/
def P44 : Pl := (.n none .z (.n none (.n none (.n (some [0]) (.n none .z (.n (some [0]) (.n none .z (.n none .z (.n none .z (.n none .z (.n (some [0]) .z .z))))) .z)) .z) .z) .z))
def S44 (c : CV) (a0 : AV) (h : AH) : R :=
loopC (σ := AV × Unit) NN (fun i3 s0 h1 d2 =>
pNil s0.1 fun v4 =>
pFieldA v4 5 fun v5 =>
pLoad1 h1 v5 fun v6 =>
pInt .eql v6 (.int .i64 (.ofNat 0)) fun v7 =>
pCond v7 (
joinC (α := AV × Unit → AH → List Nat → R) (fun s8 h9 d10 =>
i3 (s8.1, ()) h9 d10) fun j11 =>
pNil s0.1 fun v12 =>
pFieldA v12 3 fun v13 =>
pLoad1 h1 v13 fun v14 =>
pInt .neq v14 (.int .i64 (.ofNat 0)) fun v15 =>
pCond v15 (
pNil s0.1 fun v16 =>
pFieldA v16 3 fun v17 =>
pLoad1 h1 v17 fun v18 =>
pCall c (.fn 62 [] []) [s0.1, v18] h1 fun _ h20 =>
j11 (s0.1, ()) h20 d2) (
pNil s0.1 fun v21 =>
pFieldA v21 15 fun v22 =>
pLoad1 h1 v22 fun v23 =>
pNil s0.1 fun v24 =>
pFieldA v24 0 fun v25 =>
pFieldA v25 0 fun v26 =>
pLoad1 h1 v26 fun v27 =>
pLenS v27 fun v28 =>
pInt .eql v23 v28 fun v29 =>
pCond v29 (
pNil s0.1 fun v30 =>
pFieldA v30 5 fun v31 =>
pStore h1 v31 (.int .i64 (.ofNat 2)) 1 fun h32 =>
j11 (s0.1, ()) h32 d2) (
pNil s0.1 fun v33 =>
pFieldA v33 17 fun v34 =>
pLoad1 h1 v34 fun v35 =>
pInt .eql v35 (.int .i64 (.ofNat 0)) fun v36 =>
pCond v36 (
pCall c (.fn 62 [] []) [s0.1, (.int .i64 (.ofNat 6))] h1 fun _ h38 =>
j11 (s0.1, ()) h38 d2) (
pNil s0.1 fun v39 =>
pFieldA v39 15 fun v40 =>
pLoad1 h1 v40 fun v41 =>
pInt .add v41 (.int .i64 (.ofNat 1)) fun v42 =>
pNil s0.1 fun v43 =>
pFieldA v43 16 fun v44 =>
pStore h1 v44 v42 1 fun h45 =>
pNil s0.1 fun v46 =>
pFieldA v46 0 fun v47 =>
pFieldA v47 0 fun v48 =>
pLoad1 h45 v48 fun v49 =>
pNil s0.1 fun v50 =>
pFieldA v50 15 fun v51 =>
pLoad1 h45 v51 fun v52 =>
pIdxS v49 v52 5 fun v53 =>
pLoadN h45 v53 5 fun v54 =>
pCall c (.fn 63 [] []) [s0.1, v54] h45 fun v55 h56 =>
joinC (α := AV × Unit → AH → List Nat → R) (fun s57 h58 d59 =>
j11 (s57.1, ()) h58 d59) fun j60 =>
pInt .eql v55 (.int .i64 (.ofNat 0)) fun v61 =>
pCond v61 (
pNil s0.1 fun v62 =>
pFieldA v62 16 fun v63 =>
pLoad1 h56 v63 fun v64 =>
pNil s0.1 fun v65 =>
pFieldA v65 15 fun v66 =>
pStore h56 v66 v64 1 fun h67 =>
pNil s0.1 fun v68 =>
pFieldA v68 17 fun v69 =>
pLoad1 h67 v69 fun v70 =>
pInt .sub v70 (.int .i64 (.ofNat 1)) fun v71 =>
pNil s0.1 fun v72 =>
pFieldA v72 17 fun v73 =>
pStore h67 v73 v71 1 fun h74 =>
j60 (s0.1, ()) h74 d2) (
pInt .eql v55 (.int .i64 (.ofNat 11)) fun v75 =>
pCond v75 (
pLeave d2 h56 fun h76 =>
some ((.int .i64 (.ofNat 1)), h76)) (
pCall c (.fn 62 [] []) [s0.1, v55] h56 fun _ h78 =>
j60 (s0.1, ()) h78 d2)))))) (
pNil s0.1 fun v79 =>
pFieldA v79 5 fun v80 =>
pLoad1 h1 v80 fun v81 =>
pLeave d2 h1 fun h82 =>
some (v81, h82))) (a0, ()) h []
theorem S44_eq (c : CV) (a0 : AV) (h : AH) : enterK Tryz.prog NN P44 c 44 [a0] h = S44 c a0 h := by kernel_rfl
def W44 (c : CV) (l : List AV) (h : AH) : R := match l with | [a0] => S44 c a0 h | _ => none
theorem W44_ok : WOk Tryz.prog 44 W44 := by
  intro c l h r e
  unfold W44 at e
  split at e
  · exact ⟨P44, by rw [S44_eq]; exact e⟩
  · cases e
/- (*quietus/interp.Interp).Err -/
def P45 : Pl := .z
def S45 (_ : CV) (a0 : AV) (h : AH) : R :=
pNil a0 fun v0 =>
pFieldA v0 4 fun v1 =>
pLoad1 h v1 fun v2 =>
some (v2, h)
theorem S45_eq (c : CV) (a0 : AV) (h : AH) : enterK Tryz.prog NN P45 c 45 [a0] h = S45 c a0 h := by kernel_rfl
def W45 (c : CV) (l : List AV) (h : AH) : R := match l with | [a0] => S45 c a0 h | _ => none
theorem W45_ok : WOk Tryz.prog 45 W45 := by
  intro c l h r e
  unfold W45 at e
  split at e
  · exact ⟨P45, by rw [S45_eq]; exact e⟩
  · cases e
/- (*quietus/interp.Interp).Slate -/
def P46 : Pl := .z
def S46 (c : CV) (a0 : AV) (h : AH) : R :=
pNil a0 fun v0 =>
pFieldA v0 14 fun v1 =>
pLoad1 h v1 fun v2 =>
pCall c (.fn 64 [] []) [v2] h fun v3 h4 =>
some (v3, h4)
theorem S46_eq (c : CV) (a0 : AV) (h : AH) : enterK Tryz.prog NN P46 c 46 [a0] h = S46 c a0 h := by kernel_rfl
def W46 (c : CV) (l : List AV) (h : AH) : R := match l with | [a0] => S46 c a0 h | _ => none
theorem W46_ok : WOk Tryz.prog 46 W46 := by
  intro c l h r e
  unfold W46 at e
  split at e
  · exact ⟨P46, by rw [S46_eq]; exact e⟩
  · cases e
/- (*quietus/slate.Slate).Text -/
def P47 : Pl := (.n none .z (.n none .z (.n none (.n none .z (.n none (.n (some [17, 16, 15, 3]) .z .z) .z)) .z)))
def S47 (c : CV) (a0 : AV) (h : AH) : R :=
pNil a0 fun v0 =>
pFieldA v0 0 fun v1 =>
pLoad1 h v1 fun v2 =>
pLenS v2 fun v3 =>
pMake h 9 [(.str [])] v3 v3 fun v4 h5 =>
pNil a0 fun v6 =>
pFieldA v6 0 fun v7 =>
pLoad1 h5 v7 fun v8 =>
pLenS v8 fun v9 =>
loopC (σ := AV × AV × AV × AV × Unit) NN (fun i13 s10 h11 d12 =>
pInt .lss s10.1 s10.2.1 fun v14 =>
pCond v14 (
pIdxS s10.2.2.1 s10.1 1 fun v15 =>
pLoad1 h11 v15 fun v16 =>
pCall c (.fn 65 [] []) [v16] h11 fun v17 h18 =>
pIdxS s10.2.2.2.1 s10.1 1 fun v19 =>
pStore h18 v19 v17 1 fun h20 =>
pInt .add s10.1 (.int .i64 (.ofNat 1)) fun v21 =>
i13 (v21, s10.2.1, s10.2.2.1, s10.2.2.2.1, ()) h20 d12) (
pCall c (.fn 66 [] []) [s10.2.2.2.1, (.str [32])] h11 fun v22 h23 =>
pLeave d12 h23 fun h24 =>
some (v22, h24))) ((.int .i64 (.ofNat 0)), v9, v8, v4, ()) h5 []
theorem S47_eq (c : CV) (a0 : AV) (h : AH) : enterK Tryz.prog NN P47 c 47 [a0] h = S47 c a0 h := by kernel_rfl
def W47 (c : CV) (l : List AV) (h : AH) : R := match l with | [a0] => S47 c a0 h | _ => none
theorem W47_ok : WOk Tryz.prog 47 W47 := by
  intro c l h r e
  unfold W47 at e
  split at e
  · exact ⟨P47, by rw [S47_eq]; exact e⟩
  · cases e
/- (*quietus/view.View).Frees -/
def P48 : Pl := .z
def S48 (c : CV) (a0 : AV) (h : AH) : R :=
pNil a0 fun v0 =>
pFieldA v0 2 fun v1 =>
pLoad1 h v1 fun v2 =>
pCall c (.fn 67 [] []) [v2] h fun v3 h4 =>
some (v3, h4)
theorem S48_eq (c : CV) (a0 : AV) (h : AH) : enterK Tryz.prog NN P48 c 48 [a0] h = S48 c a0 h := by kernel_rfl
def W48 (c : CV) (l : List AV) (h : AH) : R := match l with | [a0] => S48 c a0 h | _ => none
theorem W48_ok : WOk Tryz.prog 48 W48 := by
  intro c l h r e
  unfold W48 at e
  split at e
  · exact ⟨P48, by rw [S48_eq]; exact e⟩
  · cases e
/- slices.Index[[]int,int] -/
def P49 : Pl := (.n none .z (.n none (.n none .z (.n none (.n (some [8, 7, 1, 0]) .z .z) .z)) .z))
def S49 (_ : CV) (a0 a1 : AV) (h : AH) : R :=
pLenS a0 fun v0 =>
loopC (σ := AV × AV × AV × AV × Unit) NN (fun i4 s1 h2 d3 =>
pInt .lss s1.1 s1.2.1 fun v5 =>
pCond v5 (
pIdxS s1.2.2.2.1 s1.1 1 fun v6 =>
pLoad1 h2 v6 fun v7 =>
pInt .eql s1.2.2.1 v7 fun v8 =>
pCond v8 (
pLeave d3 h2 fun h9 =>
some (s1.1, h9)) (
pInt .add s1.1 (.int .i64 (.ofNat 1)) fun v10 =>
i4 (v10, s1.2.1, s1.2.2.1, s1.2.2.2.1, ()) h2 d3)) (
pLeave d3 h2 fun h11 =>
some ((.int .i64 (.negSucc 0)), h11))) ((.int .i64 (.ofNat 0)), v0, a1, a0, ()) h []
theorem S49_eq (c : CV) (a0 a1 : AV) (h : AH) : enterK Tryz.prog NN P49 c 49 [a0, a1] h = S49 c a0 a1 h := by kernel_rfl
def W49 (c : CV) (l : List AV) (h : AH) : R := match l with | [a0, a1] => S49 c a0 a1 h | _ => none
theorem W49_ok : WOk Tryz.prog 49 W49 := by
  intro c l h r e
  unfold W49 at e
  split at e
  · exact ⟨P49, by rw [S49_eq]; exact e⟩
  · cases e
/- slices.insertionSortCmpFunc[int] -/
def P50 : Pl := (.n none .z (.n none (.n (some [8, 3, 2, 1, 0]) (.n none .z (.n none (.n none (.n none .z (.n none (.n (some [9, 8, 3, 2, 1, 0]) (.n none (.n none (.r [[33, 21, 9, 8, 3, 2, 1, 0]]) .z) .z) .z) .z)) .z) .z)) .z) .z))
def S50 (c : CV) (a0 a1 a2 a3 : AV) (h : AH) : R :=
pInt .add a1 (.int .i64 (.ofNat 1)) fun v0 =>
loopC (σ := AV × AV × AV × AV × AV × Unit) NN (fun i4 s1 h2 d3 =>
pInt .lss s1.1 s1.2.2.1 fun v5 =>
pCond v5 (
loopC (σ := AV × AV × AV × AV × AV × AV × Unit) NN (fun i9 s6 h7 d8 =>
pInt .gtr s6.1 s6.2.2.2.2.1 fun v10 =>
joinC (α := AV × AV × AV × AV × AV × AV × AV × AV × Unit → AH → R) (fun s11 h12 =>
pPick s11.2.1 s11.1 (.bool false) fun v14 =>
pCond v14 (
pInt .sub s11.2.2.1 (.int .i64 (.ofNat 1)) fun v15 =>
pInt .sub s11.2.2.1 (.int .i64 (.ofNat 1)) fun v16 =>
pIdxS s11.2.2.2.2.2.2.2.1 v16 1 fun v17 =>
pLoad1 h12 v17 fun v18 =>
pIdxS s11.2.2.2.2.2.2.2.1 s11.2.2.1 1 fun v19 =>
pLoad1 h12 v19 fun v20 =>
pIdxS s11.2.2.2.2.2.2.2.1 s11.2.2.1 1 fun v21 =>
pStore h12 v21 v18 1 fun h22 =>
pIdxS s11.2.2.2.2.2.2.2.1 v15 1 fun v23 =>
pStore h22 v23 v20 1 fun h24 =>
pInt .sub s11.2.2.1 (.int .i64 (.ofNat 1)) fun v25 =>
i9 (v25, s11.2.2.2.1, s11.2.2.2.2.1, s11.2.2.2.2.2.1, s11.2.2.2.2.2.2.1, s11.2.2.2.2.2.2.2.1, ()) h24 d8) (
pInt .add s11.2.2.2.1 (.int .i64 (.ofNat 1)) fun v26 =>
i4 (v26, s11.2.2.2.2.1, s11.2.2.2.2.2.1, s11.2.2.2.2.2.2.1, s11.2.2.2.2.2.2.2.1, ()) h12 d8)) fun j13 =>
pWant v10 true (
pIdxS s6.2.2.2.2.2.1 s6.1 1 fun v27 =>
pLoad1 h7 v27 fun v28 =>
pInt .sub s6.1 (.int .i64 (.ofNat 1)) fun v29 =>
pIdxS s6.2.2.2.2.2.1 v29 1 fun v30 =>
pLoad1 h7 v30 fun v31 =>
pCall c s6.2.2.1 [v28, v31] h7 fun v32 h33 =>
pInt .lss v32 (.int .i64 (.ofNat 0)) fun v34 =>
j13 (v34, v10, s6.1, s6.2.1, s6.2.2.1, s6.2.2.2.1, s6.2.2.2.2.1, s6.2.2.2.2.2.1, ()) h33) (
j13 (.undef, v10, s6.1, s6.2.1, s6.2.2.1, s6.2.2.2.1, s6.2.2.2.2.1, s6.2.2.2.2.2.1, ()) h7)) (s1.1, s1.1, s1.2.1, s1.2.2.1, s1.2.2.2.1, s1.2.2.2.2.1, ()) h2 d3) (
pLeave d3 h2 fun h35 =>
some ((.tup []), h35))) (v0, a3, a2, a1, a0, ()) h []
theorem S50_eq (c : CV) (a0 a1 a2 a3 : AV) (h : AH) : enterK Tryz.prog NN P50 c 50 [a0, a1, a2, a3] h = S50 c a0 a1 a2 a3 h := by kernel_rfl
def W50 (c : CV) (l : List AV) (h : AH) : R := match l with | [a0, a1, a2, a3] => S50 c a0 a1 a2 a3 h | _ => none
theorem W50_ok : WOk Tryz.prog 50 W50 := by
  intro c l h r e
  unfold W50 at e
  split at e
  · exact ⟨P50, by rw [S50_eq]; exact e⟩
  · cases e
/- slices.symMergeCmpFunc[int] -/
def P51 : Pl := (.n none (.n none .z (.n none (.n none .z (.n none .z (.n none (.n none (.n (some [11, 10, 4, 1, 0]) (.n none .z (.n (some [11, 10, 4, 1, 0]) .z .z)) .z) .z) (.n none (.n none .z (.n none (.n (some [13, 10, 0]) .z .z) .z)) .z)))) .z)) (.n none (.n none .z (.n none (.n none .z (.n none .z (.n none (.n none (.n (some [15, 14, 4, 2, 0]) (.n none .z (.n (some [15, 14, 4, 2, 0]) .z .z)) .z) .z) (.n none (.n none .z (.n none (.n (some [17, 14, 0]) .z .z) .z)) .z)))) .z)) (.n none .z (.n none .z (.n none .z (.n (some [21, 20, 19, 18, 4, 3, 2, 1, 0]) .z (.n none .z (.n none (.n none (.n (some [22, 21, 20, 19, 18, 4, 3, 2, 1, 0]) (.n none .z (.n (some [22, 21, 20, 19, 18, 4, 3, 2, 1, 0]) .z .z)) .z) .z) (.n none .z (.n (some [24, 20, 18, 4, 3, 1, 0]) (.n none (.r [[184, 181, 24, 20, 18, 4, 3, 2, 1, 0]]) .z) (.n (some [24, 18, 4, 3, 0]) (.n none (.r [[198, 195, 24, 20, 18, 4, 3, 1, 0]]) .z) (.n none (.r [[212, 209, 24, 18, 4, 3, 0]]) .z))))))))))))
def S51 (c : CV) (a0 a1 a2 a3 a4 : AV) (h : AH) : R :=
pInt .sub a2 a1 fun v0 =>
pInt .eql v0 (.int .i64 (.ofNat 1)) fun v1 =>
pCond v1 (
loopC (σ := AV × AV × AV × AV × AV × Unit) NN (fun i5 s2 h3 d4 =>
pInt .lss s2.2.1 s2.1 fun v6 =>
pCond v6 (
joinC (α := AV × AV × AV × AV × AV × Unit → AH → List Nat → R) (fun s7 h8 d9 =>
i5 (s7.1, s7.2.1, s7.2.2.1, s7.2.2.2.1, s7.2.2.2.2.1, ()) h8 d9) fun j10 =>
pInt .add s2.2.1 s2.1 fun v11 =>
pConvI .u64 v11 fun v12 =>
pShift .shr v12 (.int .u64 (.ofNat 1)) fun v13 =>
pConvI .i64 v13 fun v14 =>
pIdxS s2.2.2.2.2.1 v14 1 fun v15 =>
pLoad1 h3 v15 fun v16 =>
pIdxS s2.2.2.2.2.1 s2.2.2.2.1 1 fun v17 =>
pLoad1 h3 v17 fun v18 =>
pCall c s2.2.2.1 [v16, v18] h3 fun v19 h20 =>
pInt .lss v19 (.int .i64 (.ofNat 0)) fun v21 =>
pCond v21 (
pInt .add v14 (.int .i64 (.ofNat 1)) fun v22 =>
j10 (s2.1, v22, s2.2.2.1, s2.2.2.2.1, s2.2.2.2.2.1, ()) h20 d4) (
j10 (v14, s2.2.1, s2.2.2.1, s2.2.2.2.1, s2.2.2.2.2.1, ()) h20 d4)) (
loopC (σ := AV × AV × AV × Unit) NN (fun i26 s23 h24 d25 =>
pInt .sub s23.2.1 (.int .i64 (.ofNat 1)) fun v27 =>
pInt .lss s23.1 v27 fun v28 =>
pCond v28 (
pInt .add s23.1 (.int .i64 (.ofNat 1)) fun v29 =>
pInt .add s23.1 (.int .i64 (.ofNat 1)) fun v30 =>
pIdxS s23.2.2.1 v30 1 fun v31 =>
pLoad1 h24 v31 fun v32 =>
pIdxS s23.2.2.1 s23.1 1 fun v33 =>
pLoad1 h24 v33 fun v34 =>
pIdxS s23.2.2.1 s23.1 1 fun v35 =>
pStore h24 v35 v32 1 fun h36 =>
pIdxS s23.2.2.1 v29 1 fun v37 =>
pStore h36 v37 v34 1 fun h38 =>
pInt .add s23.1 (.int .i64 (.ofNat 1)) fun v39 =>
i26 (v39, s23.2.1, s23.2.2.1, ()) h38 d25) (
pLeave d25 h24 fun h40 =>
some ((.tup []), h40))) (s2.2.2.2.1, s2.2.1, s2.2.2.2.2.1, ()) h3 d4)) (a3, a2, a4, a1, a0, ()) h []) (
pInt .sub a3 a2 fun v41 =>
pInt .eql v41 (.int .i64 (.ofNat 1)) fun v42 =>
pCond v42 (
loopC (σ := AV × AV × AV × AV × AV × Unit) NN (fun i46 s43 h44 d45 =>
pInt .lss s43.2.1 s43.1 fun v47 =>
pCond v47 (
joinC (α := AV × AV × AV × AV × AV × Unit → AH → List Nat → R) (fun s48 h49 d50 =>
i46 (s48.1, s48.2.1, s48.2.2.1, s48.2.2.2.1, s48.2.2.2.2.1, ()) h49 d50) fun j51 =>
pInt .add s43.2.1 s43.1 fun v52 =>
pConvI .u64 v52 fun v53 =>
pShift .shr v53 (.int .u64 (.ofNat 1)) fun v54 =>
pConvI .i64 v54 fun v55 =>
pIdxS s43.2.2.2.2.1 s43.2.2.2.1 1 fun v56 =>
pLoad1 h44 v56 fun v57 =>
pIdxS s43.2.2.2.2.1 v55 1 fun v58 =>
pLoad1 h44 v58 fun v59 =>
pCall c s43.2.2.1 [v57, v59] h44 fun v60 h61 =>
pInt .lss v60 (.int .i64 (.ofNat 0)) fun v62 =>
pUn .not v62 fun v63 =>
pCond v63 (
pInt .add v55 (.int .i64 (.ofNat 1)) fun v64 =>
j51 (s43.1, v64, s43.2.2.1, s43.2.2.2.1, s43.2.2.2.2.1, ()) h61 d45) (
j51 (v55, s43.2.1, s43.2.2.1, s43.2.2.2.1, s43.2.2.2.2.1, ()) h61 d45)) (
loopC (σ := AV × AV × AV × Unit) NN (fun i68 s65 h66 d67 =>
pInt .gtr s65.1 s65.2.1 fun v69 =>
pCond v69 (
pInt .sub s65.1 (.int .i64 (.ofNat 1)) fun v70 =>
pInt .sub s65.1 (.int .i64 (.ofNat 1)) fun v71 =>
pIdxS s65.2.2.1 v71 1 fun v72 =>
pLoad1 h66 v72 fun v73 =>
pIdxS s65.2.2.1 s65.1 1 fun v74 =>
pLoad1 h66 v74 fun v75 =>
pIdxS s65.2.2.1 s65.1 1 fun v76 =>
pStore h66 v76 v73 1 fun h77 =>
pIdxS s65.2.2.1 v70 1 fun v78 =>
pStore h77 v78 v75 1 fun h79 =>
pInt .sub s65.1 (.int .i64 (.ofNat 1)) fun v80 =>
i68 (v80, s65.2.1, s65.2.2.1, ()) h79 d67) (
pLeave d67 h66 fun h81 =>
some ((.tup []), h81))) (s43.2.2.2.1, s43.2.1, s43.2.2.2.2.1, ()) h44 d45)) (a2, a1, a4, a2, a0, ()) h []) (
pInt .add a1 a3 fun v82 =>
pConvI .u64 v82 fun v83 =>
pShift .shr v83 (.int .u64 (.ofNat 1)) fun v84 =>
pConvI .i64 v84 fun v85 =>
pInt .add v85 a2 fun v86 =>
joinC (α := AV × AV × AV × AV × AV × AV × AV × AV × AV × Unit → AH → List Nat → R) (fun s87 h88 d89 =>
pInt .sub s87.2.2.1 (.int .i64 (.ofNat 1)) fun v91 =>
loopC (σ := AV × AV × AV × AV × AV × AV × AV × AV × AV × AV × Unit) NN (fun i95 s92 h93 d94 =>
pInt .lss s92.2.2.1 s92.2.1 fun v96 =>
pCond v96 (
joinC (α := AV × AV × AV × AV × AV × AV × AV × AV × AV × AV × Unit → AH → List Nat → R) (fun s97 h98 d99 =>
i95 (s97.1, s97.2.1, s97.2.2.1, s97.2.2.2.1, s97.2.2.2.2.1, s97.2.2.2.2.2.1, s97.2.2.2.2.2.2.1, s97.2.2.2.2.2.2.2.1, s97.2.2.2.2.2.2.2.2.1, s97.2.2.2.2.2.2.2.2.2.1, ()) h98 d99) fun j100 =>
pInt .add s92.2.2.1 s92.2.1 fun v101 =>
pConvI .u64 v101 fun v102 =>
pShift .shr v102 (.int .u64 (.ofNat 1)) fun v103 =>
pConvI .i64 v103 fun v104 =>
pInt .sub s92.1 v104 fun v105 =>
pIdxS s92.2.2.2.2.2.2.2.2.2.1 v105 1 fun v106 =>
pLoad1 h93 v106 fun v107 =>
pIdxS s92.2.2.2.2.2.2.2.2.2.1 v104 1 fun v108 =>
pLoad1 h93 v108 fun v109 =>
pCall c s92.2.2.2.2.2.1 [v107, v109] h93 fun v110 h111 =>
pInt .lss v110 (.int .i64 (.ofNat 0)) fun v112 =>
pUn .not v112 fun v113 =>
pCond v113 (
pInt .add v104 (.int .i64 (.ofNat 1)) fun v114 =>
j100 (s92.1, s92.2.1, v114, s92.2.2.2.1, s92.2.2.2.2.1, s92.2.2.2.2.2.1, s92.2.2.2.2.2.2.1, s92.2.2.2.2.2.2.2.1, s92.2.2.2.2.2.2.2.2.1, s92.2.2.2.2.2.2.2.2.2.1, ()) h111 d94) (
j100 (s92.1, v104, s92.2.2.1, s92.2.2.2.1, s92.2.2.2.2.1, s92.2.2.2.2.2.1, s92.2.2.2.2.2.2.1, s92.2.2.2.2.2.2.2.1, s92.2.2.2.2.2.2.2.2.1, s92.2.2.2.2.2.2.2.2.2.1, ()) h111 d94)) (
pInt .sub s92.2.2.2.1 s92.2.2.1 fun v115 =>
joinC (α := AV × AV × AV × AV × AV × AV × AV × Unit → AH → List Nat → R) (fun s116 h117 d118 =>
joinC (α := AV × AV × AV × AV × AV × Unit → AH → List Nat → R) (fun s120 h121 d122 =>
pInt .lss s120.2.1 s120.1 fun v124 =>
joinC (α := AV × AV × AV × AV × AV × AV × AV × Unit → AH → R) (fun s125 h126 =>
pPick s125.2.1 s125.1 (.bool false) fun v128 =>
pCond v128 (
pCall c (.fn 51 [] []) [s125.2.2.2.2.2.2.1, s125.2.2.2.1, s125.2.2.1, s125.2.2.2.2.2.1, s125.2.2.2.2.1] h126 fun _ h130 =>
pLeave d122 h130 fun h131 =>
some ((.tup []), h131)) (
pLeave d122 h126 fun h132 =>
some ((.tup []), h132))) fun j127 =>
pWant v124 true (
pInt .lss s120.1 s120.2.2.2.1 fun v133 =>
j127 (v133, v124, s120.1, s120.2.1, s120.2.2.1, s120.2.2.2.1, s120.2.2.2.2.1, ()) h121) (
j127 (.undef, v124, s120.1, s120.2.1, s120.2.2.1, s120.2.2.2.1, s120.2.2.2.2.1, ()) h121)) fun j123 =>
pInt .lss s116.2.2.2.2.2.1 s116.2.1 fun v134 =>
joinC (α := AV × AV × AV × AV × AV × AV × AV × AV × AV × Unit → AH → R) (fun s135 h136 =>
pPick s135.2.1 s135.1 (.bool false) fun v138 =>
pCond v138 (
pCall c (.fn 51 [] []) [s135.2.2.2.2.2.2.2.2.1, s135.2.2.2.2.2.2.2.1, s135.2.2.2.1, s135.2.2.2.2.1, s135.2.2.2.2.2.1] h136 fun _ h140 =>
j123 (s135.2.2.1, s135.2.2.2.2.1, s135.2.2.2.2.2.1, s135.2.2.2.2.2.2.1, s135.2.2.2.2.2.2.2.2.1, ()) h140 d118) (
j123 (s135.2.2.1, s135.2.2.2.2.1, s135.2.2.2.2.2.1, s135.2.2.2.2.2.2.1, s135.2.2.2.2.2.2.2.2.1, ()) h136 d118)) fun j137 =>
pWant v134 true (
pInt .lss s116.2.1 s116.2.2.1 fun v141 =>
j137 (v141, v134, s116.1, s116.2.1, s116.2.2.1, s116.2.2.2.1, s116.2.2.2.2.1, s116.2.2.2.2.2.1, s116.2.2.2.2.2.2.1, ()) h117) (
j137 (.undef, v134, s116.1, s116.2.1, s116.2.2.1, s116.2.2.2.1, s116.2.2.2.2.1, s116.2.2.2.2.2.1, s116.2.2.2.2.2.2.1, ()) h117)) fun j119 =>
pInt .lss s92.2.2.1 s92.2.2.2.2.2.2.2.1 fun v142 =>
joinC (α := AV × AV × AV × AV × AV × AV × AV × AV × AV × AV × Unit → AH → R) (fun s143 h144 =>
pPick s143.2.1 s143.1 (.bool false) fun v146 =>
pCond v146 (
pCall c (.fn 68 [] []) [s143.2.2.2.2.2.2.2.2.2.1, s143.2.2.2.1, s143.2.2.2.2.2.2.2.1, s143.2.2.1, s143.2.2.2.2.2.1] h144 fun _ h148 =>
j119 (s143.2.2.1, s143.2.2.2.1, s143.2.2.2.2.1, s143.2.2.2.2.2.1, s143.2.2.2.2.2.2.1, s143.2.2.2.2.2.2.2.2.1, s143.2.2.2.2.2.2.2.2.2.1, ()) h148 d94) (
j119 (s143.2.2.1, s143.2.2.2.1, s143.2.2.2.2.1, s143.2.2.2.2.2.1, s143.2.2.2.2.2.2.1, s143.2.2.2.2.2.2.2.2.1, s143.2.2.2.2.2.2.2.2.2.1, ()) h144 d94)) fun j145 =>
pWant v142 true (
pInt .lss s92.2.2.2.2.2.2.2.1 v115 fun v149 =>
j145 (v149, v142, v115, s92.2.2.1, s92.2.2.2.2.1, s92.2.2.2.2.2.1, s92.2.2.2.2.2.2.1, s92.2.2.2.2.2.2.2.1, s92.2.2.2.2.2.2.2.2.1, s92.2.2.2.2.2.2.2.2.2.1, ()) h93) (
j145 (.undef, v142, v115, s92.2.2.1, s92.2.2.2.2.1, s92.2.2.2.2.2.1, s92.2.2.2.2.2.2.1, s92.2.2.2.2.2.2.2.1, s92.2.2.2.2.2.2.2.2.1, s92.2.2.2.2.2.2.2.2.2.1, ()) h93))) (v91, s87.1, s87.2.1, s87.2.2.1, s87.2.2.2.1, s87.2.2.2.2.1, s87.2.2.2.2.2.1, s87.2.2.2.2.2.2.1, s87.2.2.2.2.2.2.2.1, s87.2.2.2.2.2.2.2.2.1, ()) h88 d89) fun j90 =>
pInt .gtr a2 v85 fun v150 =>
pCond v150 (
pInt .sub v86 a3 fun v151 =>
j90 (v85, v151, v86, v85, a4, a3, a2, a1, a0, ()) h []) (
j90 (a2, a1, v86, v85, a4, a3, a2, a1, a0, ()) h [])))
theorem S51_eq (c : CV) (a0 a1 a2 a3 a4 : AV) (h : AH) : enterK Tryz.prog NN P51 c 51 [a0, a1, a2, a3, a4] h = S51 c a0 a1 a2 a3 a4 h := by kernel_rfl
def W51 (c : CV) (l : List AV) (h : AH) : R := match l with | [a0, a1, a2, a3, a4] => S51 c a0 a1 a2 a3 a4 h | _ => none
theorem W51_ok : WOk Tryz.prog 51 W51 := by
  intro c l h r e
  unfold W51 at e
  split at e
  · exact ⟨P51, by rw [S51_eq]; exact e⟩
  · cases e
/- quietus/view.New -/
def P52 : Pl := .z
def S52 (c : CV) (a0 a1 : AV) (h : AH) : R :=
pMM false [a0, (.int .i64 (.ofNat 256))] fun v0 =>
pMM true [(.int .i64 (.ofNat 32)), v0] fun v1 =>
pMake h 143 [(.int .u64 (.ofNat 0)), (.bool false)] v1 v1 fun v2 h3 =>
pCall c (.fn 69 [] []) [a1] h3 fun v4 h5 =>
pBuild [.nils, .nils, .nilp, (.int .i64 (.ofNat 0))] [(0, 1, v2), (2, 1, v4)] fun v6 =>
pBox h5 124 v6 fun v7 h8 =>
some (v7, h8)
theorem S52_eq (c : CV) (a0 a1 : AV) (h : AH) : enterK Tryz.prog NN P52 c 52 [a0, a1] h = S52 c a0 a1 h := by kernel_rfl
def W52 (c : CV) (l : List AV) (h : AH) : R := match l with | [a0, a1] => S52 c a0 a1 h | _ => none
theorem W52_ok : WOk Tryz.prog 52 W52 := by
  intro c l h r e
  unfold W52 at e
  split at e
  · exact ⟨P52, by rw [S52_eq]; exact e⟩
  · cases e
/- (*quietus/view.View).Size -/
def P53 : Pl := .z
def S53 (_ : CV) (a0 : AV) (h : AH) : R :=
pNil a0 fun v0 =>
pFieldA v0 0 fun v1 =>
pLoad1 h v1 fun v2 =>
pLenS v2 fun v3 =>
some (v3, h)
theorem S53_eq (c : CV) (a0 : AV) (h : AH) : enterK Tryz.prog NN P53 c 53 [a0] h = S53 c a0 h := by kernel_rfl
def W53 (c : CV) (l : List AV) (h : AH) : R := match l with | [a0] => S53 c a0 h | _ => none
theorem W53_ok : WOk Tryz.prog 53 W53 := by
  intro c l h r e
  unfold W53 at e
  split at e
  · exact ⟨P53, by rw [S53_eq]; exact e⟩
  · cases e
/- (*quietus/view.View).Know -/
def P54 : Pl := .z
def S54 (c : CV) (a0 a1 a2 : AV) (h : AH) : R :=
pCall c (.fn 70 [] []) [a0, a1] h fun v0 h1 =>
pUn .not v0 fun v2 =>
pCond v2 (
some ((.int .i64 (.ofNat 2)), h1)) (
pNil a0 fun v3 =>
pFieldA v3 0 fun v4 =>
pLoad1 h1 v4 fun v5 =>
pIdxS v5 a1 2 fun v6 =>
pLoadN h1 v6 2 fun v7 =>
pBox h1 143 (.agg [(.int .u64 (.ofNat 0)), (.bool false)]) fun v8 h9 =>
pStore h9 v8 v7 2 fun h10 =>
pFieldA v8 1 fun v11 =>
pLoad1 h10 v11 fun v12 =>
pCond v12 (
pFieldA v8 0 fun v13 =>
pLoad1 h10 v13 fun v14 =>
pInt .neq v14 a2 fun v15 =>
pCond v15 (
some ((.int .i64 (.ofNat 14)), h10)) (
some ((.int .i64 (.ofNat 0)), h10))) (
pNil a0 fun v16 =>
pFieldA v16 0 fun v17 =>
pLoad1 h10 v17 fun v18 =>
pBuild [(.int .u64 (.ofNat 0)), (.bool false)] [(0, 1, a2), (1, 1, (.bool true))] fun v19 =>
pIdxS v18 a1 2 fun v20 =>
pStore h10 v20 v19 2 fun h21 =>
pNil a0 fun v22 =>
pFieldA v22 1 fun v23 =>
pLoad1 h21 v23 fun v24 =>
pBuildS h21 3 [(.int .i64 (.ofNat 0))] 1 [(0, 1, a1)] fun v25 h26 =>
pAppend h26 3 1 v24 v25 fun v27 h28 =>
pNil a0 fun v29 =>
pFieldA v29 1 fun v30 =>
pStore h28 v30 v27 1 fun h31 =>
some ((.int .i64 (.ofNat 0)), h31)))
theorem S54_eq (c : CV) (a0 a1 a2 : AV) (h : AH) : enterK Tryz.prog NN P54 c 54 [a0, a1, a2] h = S54 c a0 a1 a2 h := by kernel_rfl
def W54 (c : CV) (l : List AV) (h : AH) : R := match l with | [a0, a1, a2] => S54 c a0 a1 a2 h | _ => none
theorem W54_ok : WOk Tryz.prog 54 W54 := by
  intro c l h r e
  unfold W54 at e
  split at e
  · exact ⟨P54, by rw [S54_eq]; exact e⟩
  · cases e
/- quietus/arena.asked -/
def P55 : Pl := (.n none .z (.n none (.n none (.r [[17, 13, 1, 0]]) .z) .z))
def S55 (c : CV) (a0 a1 : AV) (h : AH) : R :=
pInt .leq a1 (.int .i64 (.ofNat 14)) fun v0 =>
joinC (α := AV × AV × AV × AV × Unit → AH → R) (fun s1 h2 =>
pPick s1.2.1 (.bool true) s1.1 fun v4 =>
pCond v4 (
some ((.tup [(.int .i64 (.ofNat 0)), (.bool false), (.int .i64 (.ofNat 2))]), h2)) (
pInt .sub s1.2.2.1 (.int .i64 (.ofNat 1)) fun v5 =>
pCall c (.fn 56 [] []) [s1.2.2.2.1, v5] h2 fun v6 h7 =>
pExtract v6 0 fun v8 =>
pExtract v6 1 fun v9 =>
pInt .neq v9 (.int .i64 (.ofNat 0)) fun v10 =>
pCond v10 (
some ((.tup [(.int .i64 (.ofNat 0)), (.bool false), v9]), h7)) (
pCall c (.fn 32 [] []) [v8] h7 fun v11 h12 =>
pExtract v11 0 fun v13 =>
pExtract v11 1 fun v14 =>
pInt .eql v13 (.int .i64 (.ofNat 0)) fun v15 =>
pCond v15 (
some ((.tup [(.int .i64 (.ofNat 0)), (.bool false), (.int .i64 (.ofNat 2))]), h12)) (
some ((.tup [v13, v14, (.int .i64 (.ofNat 0))]), h12))))) fun j3 =>
pWant v0 false (
pCall c (.fn 53 [] []) [a0] h fun v16 h17 =>
pInt .geq a1 v16 fun v18 =>
j3 (v18, v0, a1, a0, ()) h17) (
j3 (.undef, v0, a1, a0, ()) h)
theorem S55_eq (c : CV) (a0 a1 : AV) (h : AH) : enterK Tryz.prog NN P55 c 55 [a0, a1] h = S55 c a0 a1 h := by kernel_rfl
def W55 (c : CV) (l : List AV) (h : AH) : R := match l with | [a0, a1] => S55 c a0 a1 h | _ => none
theorem W55_ok : WOk Tryz.prog 55 W55 := by
  intro c l h r e
  unfold W55 at e
  split at e
  · exact ⟨P55, by rw [S55_eq]; exact e⟩
  · cases e
/- (*quietus/view.View).Read -/
def P56 : Pl := .z
def S56 (c : CV) (a0 a1 : AV) (h : AH) : R :=
pCall c (.fn 70 [] []) [a0, a1] h fun v0 h1 =>
pUn .not v0 fun v2 =>
pCond v2 (
some ((.tup [(.int .u64 (.ofNat 0)), (.int .i64 (.ofNat 2))]), h1)) (
pNil a0 fun v3 =>
pFieldA v3 2 fun v4 =>
pLoad1 h1 v4 fun v5 =>
pCall c (.fn 71 [] []) [v5, a1] h1 fun v6 h7 =>
pExtract v6 0 fun v8 =>
pExtract v6 1 fun v9 =>
pCond v9 (
some ((.tup [v8, (.int .i64 (.ofNat 0))]), h7)) (
pNil a0 fun v10 =>
pFieldA v10 0 fun v11 =>
pLoad1 h7 v11 fun v12 =>
pIdxS v12 a1 2 fun v13 =>
pLoadN h7 v13 2 fun v14 =>
pBox h7 143 (.agg [(.int .u64 (.ofNat 0)), (.bool false)]) fun v15 h16 =>
pStore h16 v15 v14 2 fun h17 =>
pFieldA v15 1 fun v18 =>
pLoad1 h17 v18 fun v19 =>
pCond v19 (
pFieldA v15 0 fun v20 =>
pLoad1 h17 v20 fun v21 =>
some ((.tup [v21, (.int .i64 (.ofNat 0))]), h17)) (
pNil a0 fun v22 =>
pFieldA v22 3 fun v23 =>
pStore h17 v23 a1 1 fun h24 =>
some ((.tup [(.int .u64 (.ofNat 0)), (.int .i64 (.ofNat 11))]), h24))))
theorem S56_eq (c : CV) (a0 a1 : AV) (h : AH) : enterK Tryz.prog NN P56 c 56 [a0, a1] h = S56 c a0 a1 h := by kernel_rfl
def W56 (c : CV) (l : List AV) (h : AH) : R := match l with | [a0, a1] => S56 c a0 a1 h | _ => none
theorem W56_ok : WOk Tryz.prog 56 W56 := by
  intro c l h r e
  unfold W56 at e
  split at e
  · exact ⟨P56, by rw [S56_eq]; exact e⟩
  · cases e
/- (*quietus/view.View).Take -/
def P57 : Pl := (.n none .z (.n none (.n none .z (.n none (.n (some [9, 8, 7, 1, 0]) .z .z) .z)) .z))
def S57 (c : CV) (a0 a1 : AV) (h : AH) : R :=
pLenS a1 fun v0 =>
loopC (σ := AV × AV × AV × AV × AV × Unit) NN (fun i4 s1 h2 d3 =>
pInt .lss s1.1 s1.2.1 fun v5 =>
pCond v5 (
pIdxS s1.2.2.1 s1.1 2 fun v6 =>
pLoadN h2 v6 2 fun v7 =>
pBox h2 35 (.agg [(.int .i64 (.ofNat 0)), (.int .u64 (.ofNat 0))]) fun v8 h9 =>
pStore h9 v8 v7 2 fun h10 =>
pFieldA v8 0 fun v11 =>
pLoad1 h10 v11 fun v12 =>
pCall c (.fn 70 [] []) [s1.2.2.2.2.1, v12] h10 fun v13 h14 =>
pUn .not v13 fun v15 =>
pCond v15 (
pLeave d3 h14 fun h16 =>
some ((.int .i64 (.ofNat 2)), h16)) (
pInt .add s1.1 (.int .i64 (.ofNat 1)) fun v17 =>
i4 (v17, s1.2.1, s1.2.2.1, s1.2.2.2.1, s1.2.2.2.2.1, ()) h14 d3)) (
pNil s1.2.2.2.2.1 fun v18 =>
pFieldA v18 2 fun v19 =>
pLoad1 h2 v19 fun v20 =>
pCall c (.fn 72 [] []) [v20, s1.2.2.2.1] h2 fun v21 h22 =>
pLeave d3 h22 fun h23 =>
some (v21, h23))) ((.int .i64 (.ofNat 0)), v0, a1, a1, a0, ()) h []
theorem S57_eq (c : CV) (a0 a1 : AV) (h : AH) : enterK Tryz.prog NN P57 c 57 [a0, a1] h = S57 c a0 a1 h := by kernel_rfl
def W57 (c : CV) (l : List AV) (h : AH) : R := match l with | [a0, a1] => S57 c a0 a1 h | _ => none
theorem W57_ok : WOk Tryz.prog 57 W57 := by
  intro c l h r e
  unfold W57 at e
  split at e
  · exact ⟨P57, by rw [S57_eq]; exact e⟩
  · cases e
/- (*quietus/levels.Levels).Cells -/
def P58 : Pl := (.n none .z (.n none .z (.n none (.n none .z (.n none (.n (some [3]) .z .z) .z)) .z)))
def S58 (c : CV) (a0 : AV) (h : AH) : R :=
pBox h 36 .nils fun v0 h1 =>
pNil a0 fun v2 =>
pFieldA v2 1 fun v3 =>
pLoad1 h1 v3 fun v4 =>
pCall c (.fn 73 [] []) [v4] h1 fun v5 h6 =>
pCallF c v5 [.yield (h6.new .dfd).nx] ((h6.new .dfd).new (.loop .ready none 58 [1, 1, 0, 1, 0] [3] [v0] h6.nx)) fun _ h7 =>
pEndLoop h7 (h6.new .dfd).nx fun p9 h8 =>
pNone p9 (
pLoad1 h8 v0 fun v10 =>
pLeave (h6.nx :: []) h8 fun h11 =>
some (v10, h11)) <|
none
theorem S58_eq (c : CV) (a0 : AV) (h : AH) : enterK Tryz.prog NN P58 c 58 [a0] h = S58 c a0 h := by kernel_rfl
def W58 (c : CV) (l : List AV) (h : AH) : R := match l with | [a0] => S58 c a0 h | _ => none
theorem W58_ok : WOk Tryz.prog 58 W58 := by
  intro c l h r e
  unfold W58 at e
  split at e
  · exact ⟨P58, by rw [S58_eq]; exact e⟩
  · cases e
/- quietus/check.Run -/
def P59 : Pl := (.n none .z (.n none (.n none (.r [[16, 12, 1]]) .z) (.n none .z (.n none (.n none .z (.n none (.n (some [21, 20, 19, 4, 1]) .z .z) .z)) (.n none .z (.n none (.r [[3, 2]]) .z))))))
def S59 (c : CV) (a0 : AV) (h : AH) : R :=
pBox h 33 a0 fun v0 h1 =>
pFieldA v0 0 fun v2 =>
pLoad1 h1 v2 fun v3 =>
pLenS v3 fun v4 =>
pInt .eql v4 (.int .i64 (.ofNat 0)) fun v5 =>
joinC (α := AV × AV × AV × Unit → AH → R) (fun s6 h7 =>
pPick s6.2.1 (.bool true) s6.1 fun v9 =>
pCond v9 (
some ((.tup [(.int .i64 (.ofNat 0)), (.int .i64 (.ofNat 4))]), h7)) (
pFieldA s6.2.2.1 0 fun v10 =>
pLoad1 h7 v10 fun v11 =>
pLenS v11 fun v12 =>
loopC (σ := AV × AV × AV × AV × AV × Unit) NN (fun i16 s13 h14 d15 =>
pInt .lss s13.1 s13.2.1 fun v17 =>
pCond v17 (
pIdxS s13.2.2.1 s13.1 5 fun v18 =>
pLoadN h14 v18 5 fun v19 =>
pBox h14 30 (.agg [(.int .i64 (.ofNat 0)), (.int .i64 (.ofNat 0)), (.int .i64 (.ofNat 0)), (.int .i64 (.ofNat 0)), (.int .u64 (.ofNat 0))]) fun v20 h21 =>
pStore h21 v20 v19 5 fun h22 =>
pLoadN h22 s13.2.2.2.2.1 1 fun v23 =>
pLoadN h22 v20 5 fun v24 =>
pCall c (.fn 77 [] []) [v23, s13.2.2.2.1, v24] h22 fun v25 h26 =>
pInt .neq v25 (.int .i64 (.ofNat 0)) fun v27 =>
pCond v27 (
pLeave d15 h26 fun h28 =>
some ((.tup [s13.1, v25]), h28)) (
pFieldA v20 0 fun v29 =>
pLoad1 h26 v29 fun v30 =>
pCall c (.fn 78 [] []) [s13.2.2.2.1, s13.1, v30] h26 fun v31 h32 =>
pInt .add s13.1 (.int .i64 (.ofNat 1)) fun v33 =>
i16 (v33, s13.2.1, s13.2.2.1, v31, s13.2.2.2.2.1, ()) h32 d15)) (
pLenS s13.2.2.2.1 fun v34 =>
pInt .gtr v34 (.int .i64 (.ofNat 0)) fun v35 =>
pCond v35 (
pCall c (.fn 79 [] []) [s13.2.2.2.1] h14 fun v36 h37 =>
pLeave d15 h37 fun h38 =>
some ((.tup [v36, (.int .i64 (.ofNat 12))]), h38)) (
joinC (α := AV × AV × Unit → AH → R) (fun s39 h40 =>
pLeave d15 h40 fun h42 =>
some ((.tup [s39.2.1, s39.1]), h42)) fun j41 =>
pLoadN h14 s13.2.2.2.2.1 1 fun v43 =>
pLoadN h14 s13.2.2.2.2.1 1 fun v44 =>
pCall c (.fn 81 [] []) [v44] h14 fun v45 h46 =>
pCall c (.fn 80 [] []) [v43, v45] h46 fun v47 h48 =>
pExtract v47 0 fun v49 =>
pExtract v47 1 fun v50 =>
pChk s13.2.2.2.2.1 (some 1) v43 h14 h46 h14.nx <|
j41 (v50, v49, ()) h48))) ((.int .i64 (.ofNat 0)), v12, v11, .nils, s6.2.2.1, ()) h7 [])) fun j8 =>
pWant v5 false (
pFieldA v0 0 fun v51 =>
pLoad1 h1 v51 fun v52 =>
pLenS v52 fun v53 =>
pInt .gtr v53 (.int .i64 (.ofNat 40)) fun v54 =>
j8 (v54, v5, v0, ()) h1) (
j8 (.undef, v5, v0, ()) h1)
theorem S59_eq (c : CV) (a0 : AV) (h : AH) : enterK Tryz.prog NN P59 c 59 [a0] h = S59 c a0 h := by kernel_rfl
def W59 (c : CV) (l : List AV) (h : AH) : R := match l with | [a0] => S59 c a0 h | _ => none
theorem W59_ok : WOk Tryz.prog 59 W59 := by
  intro c l h r e
  unfold W59 at e
  split at e
  · exact ⟨P59, by rw [S59_eq]; exact e⟩
  · cases e
/- quietus/check.Match -/
def P60 : Pl := (.n none .z (.n none .z (.n none .z (.n none .z (.n none (.n none .z (.n none (.n (some [27, 26, 6, 5, 1]) .z .z) .z)) (.n none (.n none .z (.n none (.n (some [37, 36, 35, 6, 5, 1]) (.n none .z (.n none .z (.n none (.n (some [37, 36, 35, 6, 5, 1]) .z .z) .z))) .z) .z)) (.n none (.n none .z (.n none (.n (some [57, 56, 55, 6, 5]) (.n none .z (.n none .z (.n none (.n (some [57, 56, 55, 6, 5]) .z .z) .z))) .z) .z)) .z)))))))
def S60 (c : CV) (a0 : AV) (h : AH) : R :=
pBox h 33 a0 fun v0 h1 =>
pLoadN h1 v0 1 fun v2 =>
pCall c (.fn 59 [] []) [v2] h1 fun v3 h4 =>
pExtract v3 0 fun _ =>
pExtract v3 1 fun v6 =>
pInt .neq v6 (.int .i64 (.ofNat 0)) fun v7 =>
pCond v7 (
some (.nils, h4)) (
pLoadN h4 v0 1 fun v8 =>
pCall c (.fn 81 [] []) [v8] h4 fun v9 h10 =>
pFieldA v0 0 fun v11 =>
pLoad1 h10 v11 fun v12 =>
pLenS v12 fun v13 =>
pMake h10 3 [(.int .i64 (.ofNat 0))] v13 v13 fun v14 h15 =>
pLenS v14 fun v16 =>
loopC (σ := AV × AV × AV × AV × AV × Unit) NN (fun i20 s17 h18 d19 =>
pInt .lss s17.1 s17.2.1 fun v21 =>
pCond v21 (
pIdxS s17.2.2.1 s17.1 1 fun v22 =>
pStore h18 v22 (.int .i64 (.negSucc 0)) 1 fun h23 =>
pInt .add s17.1 (.int .i64 (.ofNat 1)) fun v24 =>
i20 (v24, s17.2.1, s17.2.2.1, s17.2.2.2.1, s17.2.2.2.2.1, ()) h23 d19) (
pFieldA s17.2.2.2.2.1 0 fun v25 =>
pLoad1 h18 v25 fun v26 =>
pLenS v26 fun v27 =>
loopC (σ := AV × AV × AV × AV × AV × AV × Unit) NN (fun i31 s28 h29 d30 =>
pInt .lss s28.1 s28.2.1 fun v32 =>
pCond v32 (
joinC (α := AV × AV × AV × AV × AV × AV × Unit → AH → List Nat → R) (fun s33 h34 d35 =>
pInt .add s33.1 (.int .i64 (.ofNat 1)) fun v37 =>
i31 (v37, s33.2.1, s33.2.2.1, s33.2.2.2.1, s33.2.2.2.2.1, s33.2.2.2.2.2.1, ()) h34 d35) fun j36 =>
pIdxS s28.2.2.1 s28.1 5 fun v38 =>
pLoadN h29 v38 5 fun v39 =>
pBox h29 30 (.agg [(.int .i64 (.ofNat 0)), (.int .i64 (.ofNat 0)), (.int .i64 (.ofNat 0)), (.int .i64 (.ofNat 0)), (.int .u64 (.ofNat 0))]) fun v40 h41 =>
pStore h41 v40 v39 5 fun h42 =>
pFieldA v40 0 fun v43 =>
pLoad1 h42 v43 fun v44 =>
pCall c (.fn 82 [] []) [v44] h42 fun v45 h46 =>
pInt .gtr v45 (.int .i64 (.ofNat 0)) fun v47 =>
pCond v47 (
pIdxS s28.2.2.2.2.1 s28.1 1 fun v48 =>
pLoad1 h46 v48 fun v49 =>
pIdxS s28.2.2.2.1 v49 1 fun v50 =>
pStore h46 v50 s28.1 1 fun h51 =>
j36 (s28.1, s28.2.1, s28.2.2.1, s28.2.2.2.1, s28.2.2.2.2.1, s28.2.2.2.2.2.1, ()) h51 d30) (
j36 (s28.1, s28.2.1, s28.2.2.1, s28.2.2.2.1, s28.2.2.2.2.1, s28.2.2.2.2.2.1, ()) h46 d30)) (
pFieldA s28.2.2.2.2.2.1 0 fun v52 =>
pLoad1 h29 v52 fun v53 =>
pLenS v53 fun v54 =>
loopC (σ := AV × AV × AV × AV × AV × Unit) NN (fun i58 s55 h56 d57 =>
pInt .lss s55.1 s55.2.1 fun v59 =>
pCond v59 (
joinC (α := AV × AV × AV × AV × AV × Unit → AH → List Nat → R) (fun s60 h61 d62 =>
pInt .add s60.1 (.int .i64 (.ofNat 1)) fun v64 =>
i58 (v64, s60.2.1, s60.2.2.1, s60.2.2.2.1, s60.2.2.2.2.1, ()) h61 d62) fun j63 =>
pIdxS s55.2.2.1 s55.1 5 fun v65 =>
pLoadN h56 v65 5 fun v66 =>
pBox h56 30 (.agg [(.int .i64 (.ofNat 0)), (.int .i64 (.ofNat 0)), (.int .i64 (.ofNat 0)), (.int .i64 (.ofNat 0)), (.int .u64 (.ofNat 0))]) fun v67 h68 =>
pStore h68 v67 v66 5 fun h69 =>
pFieldA v67 0 fun v70 =>
pLoad1 h69 v70 fun v71 =>
pInt .eql v71 (.int .i64 (.ofNat 16)) fun v72 =>
pCond v72 (
pIdxS s55.2.2.2.2.1 s55.1 1 fun v73 =>
pLoad1 h69 v73 fun v74 =>
pIdxS s55.2.2.2.1 v74 1 fun v75 =>
pLoad1 h69 v75 fun v76 =>
pIdxS s55.2.2.2.1 s55.1 1 fun v77 =>
pStore h69 v77 v76 1 fun h78 =>
j63 (s55.1, s55.2.1, s55.2.2.1, s55.2.2.2.1, s55.2.2.2.2.1, ()) h78 d57) (
j63 (s55.1, s55.2.1, s55.2.2.1, s55.2.2.2.1, s55.2.2.2.2.1, ()) h69 d57)) (
pLeave d57 h56 fun h79 =>
some (s55.2.2.2.1, h79))) ((.int .i64 (.ofNat 0)), v54, v53, s28.2.2.2.1, s28.2.2.2.2.1, ()) h29 d30)) ((.int .i64 (.ofNat 0)), v27, v26, s17.2.2.1, s17.2.2.2.1, s17.2.2.2.2.1, ()) h18 d19)) ((.int .i64 (.ofNat 0)), v16, v14, v9, v0, ()) h15 [])
theorem S60_eq (c : CV) (a0 : AV) (h : AH) : enterK Tryz.prog NN P60 c 60 [a0] h = S60 c a0 h := by kernel_rfl
def W60 (c : CV) (l : List AV) (h : AH) : R := match l with | [a0] => S60 c a0 h | _ => none
theorem W60_ok : WOk Tryz.prog 60 W60 := by
  intro c l h r e
  unfold W60 at e
  split at e
  · exact ⟨P60, by rw [S60_eq]; exact e⟩
  · cases e
/- quietus/slate.New -/
def P61 : Pl := .z
def S61 (_ : CV) (h : AH) : R :=
pBuild [.nils] [] fun v0 =>
pBox h 137 v0 fun v1 h2 =>
some (v1, h2)
theorem S61_eq (c : CV) (h : AH) : enterK Tryz.prog NN P61 c 61 [] h = S61 c h := by kernel_rfl
def W61 (c : CV) (l : List AV) (h : AH) : R := match l with | [] => S61 c h | _ => none
theorem W61_ok : WOk Tryz.prog 61 W61 := by
  intro c l h r e
  unfold W61 at e
  split at e
  · exact ⟨P61, by rw [S61_eq]; exact e⟩
  · cases e
/- (*quietus/interp.Interp).fail -/
def P62 : Pl := .z
def S62 (_ : CV) (a0 a1 : AV) (h : AH) : R :=
pNil a0 fun v0 =>
pFieldA v0 5 fun v1 =>
pStore h v1 (.int .i64 (.ofNat 4)) 1 fun h2 =>
pNil a0 fun v3 =>
pFieldA v3 4 fun v4 =>
pStore h2 v4 a1 1 fun h5 =>
some ((.tup []), h5)
theorem S62_eq (c : CV) (a0 a1 : AV) (h : AH) : enterK Tryz.prog NN P62 c 62 [a0, a1] h = S62 c a0 a1 h := by kernel_rfl
def W62 (c : CV) (l : List AV) (h : AH) : R := match l with | [a0, a1] => S62 c a0 a1 h | _ => none
theorem W62_ok : WOk Tryz.prog 62 W62 := by
  intro c l h r e
  unfold W62 at e
  split at e
  · exact ⟨P62, by rw [S62_eq]; exact e⟩
  · cases e
/- (*quietus/interp.Interp).do -/
def P63 : Pl := (.n none .z (.n none .z (.n none (.n none .z (.n (some []) (.n none .z (.n none .z (.n none .z (.n none .z (.n none .z (.n none .z (.n none .z (.n none .z (.n none .z (.n none .z (.n none .z (.n none .z (.n none .z (.n none .z (.n none .z (.n none .z (.n none .z (.n none .z (.n none .z (.n none .z (.n none .z (.n none .z (.n none .z (.n none .z (.n (some [120, 6, 5, 3, 0]) .z .z))))))))))))))))))))))))) .z)) .z)))
def S63 (c : CV) (a0 a1 : AV) (h : AH) : R :=
pBox h 30 a1 fun v0 h1 =>
pFieldA v0 1 fun v2 =>
pLoad1 h1 v2 fun v3 =>
pInt .rem v3 (.int .i64 (.ofNat 8)) fun v4 =>
pNil a0 fun v5 =>
pFieldA v5 6 fun v6 =>
pIdxP v6 v4 8 1 fun v7 =>
pFieldA v0 2 fun v8 =>
pLoad1 h1 v8 fun v9 =>
pInt .rem v9 (.int .i64 (.ofNat 8)) fun v10 =>
pNil a0 fun v11 =>
pFieldA v11 6 fun v12 =>
pIdxP v12 v10 8 1 fun v13 =>
pLoad1 h1 v13 fun v14 =>
pFieldA v0 3 fun v15 =>
pLoad1 h1 v15 fun v16 =>
pInt .rem v16 (.int .i64 (.ofNat 8)) fun v17 =>
pNil a0 fun v18 =>
pFieldA v18 6 fun v19 =>
pIdxP v19 v17 8 1 fun v20 =>
pLoad1 h1 v20 fun v21 =>
pFieldA v0 0 fun v22 =>
pLoad1 h1 v22 fun v23 =>
joinC (α := Unit → AH → List Nat → R) (fun _ h25 d26 =>
pLeave d26 h25 fun h28 =>
some ((.int .i64 (.ofNat 0)), h28)) fun j27 =>
pInt .eql v23 (.int .i64 (.ofNat 1)) fun v29 =>
pCond v29 (
pFieldA v0 4 fun v30 =>
pLoad1 h1 v30 fun v31 =>
pNil v7 fun v32 =>
pStore h1 v32 v31 1 fun h33 =>
j27 (()) h33 []) (
pInt .eql v23 (.int .i64 (.ofNat 2)) fun v34 =>
pCond v34 (
pNil v7 fun v35 =>
pStore h1 v35 v14 1 fun h36 =>
j27 (()) h36 []) (
pInt .eql v23 (.int .i64 (.ofNat 3)) fun v37 =>
pCond v37 (
pInt .add v14 v21 fun v38 =>
pNil v7 fun v39 =>
pStore h1 v39 v38 1 fun h40 =>
j27 (()) h40 []) (
pInt .eql v23 (.int .i64 (.ofNat 4)) fun v41 =>
pCond v41 (
pInt .sub v14 v21 fun v42 =>
pNil v7 fun v43 =>
pStore h1 v43 v42 1 fun h44 =>
j27 (()) h44 []) (
pInt .eql v23 (.int .i64 (.ofNat 5)) fun v45 =>
pCond v45 (
pInt .mul v14 v21 fun v46 =>
pNil v7 fun v47 =>
pStore h1 v47 v46 1 fun h48 =>
j27 (()) h48 []) (
pInt .eql v23 (.int .i64 (.ofNat 6)) fun v49 =>
pCond v49 (
pInt .lss v14 v21 fun v50 =>
pCall c (.fn 83 [] []) [v50] h1 fun v51 h52 =>
pNil v7 fun v53 =>
pStore h52 v53 v51 1 fun h54 =>
j27 (()) h54 []) (
pInt .eql v23 (.int .i64 (.ofNat 7)) fun v55 =>
pCond v55 (
pInt .eql v14 v21 fun v56 =>
pCall c (.fn 83 [] []) [v56] h1 fun v57 h58 =>
pNil v7 fun v59 =>
pStore h58 v59 v57 1 fun h60 =>
j27 (()) h60 []) (
pInt .eql v23 (.int .i64 (.ofNat 12)) fun v61 =>
pCond v61 (
pFieldA v0 3 fun v62 =>
pLoad1 h1 v62 fun v63 =>
pNil a0 fun v64 =>
pFieldA v64 16 fun v65 =>
pStore h1 v65 v63 1 fun h66 =>
j27 (()) h66 []) (
pInt .eql v23 (.int .i64 (.ofNat 13)) fun v67 =>
pCond v67 (
pNil v7 fun v68 =>
pLoad1 h1 v68 fun v69 =>
pInt .eql v69 (.int .u64 (.ofNat 0)) fun v70 =>
pCond v70 (
pFieldA v0 3 fun v71 =>
pLoad1 h1 v71 fun v72 =>
pNil a0 fun v73 =>
pFieldA v73 16 fun v74 =>
pStore h1 v74 v72 1 fun h75 =>
j27 (()) h75 []) (
j27 (()) h1 [])) (
pInt .eql v23 (.int .i64 (.ofNat 21)) fun v76 =>
pCond v76 (
pNil a0 fun v77 =>
pFieldA v77 14 fun v78 =>
pLoad1 h1 v78 fun v79 =>
pNil v7 fun v80 =>
pLoad1 h1 v80 fun v81 =>
pCall c (.fn 84 [] []) [v79, v81] h1 fun v82 h83 =>
pUn .not v82 fun v84 =>
pCond v84 (
some ((.int .i64 (.ofNat 5)), h83)) (
j27 (()) h83 [])) (
pInt .eql v23 (.int .i64 (.ofNat 22)) fun v85 =>
pCond v85 (
some ((.int .i64 (.ofNat 13)), h1)) (
pInt .eql v23 (.int .i64 (.ofNat 23)) fun v86 =>
pCond v86 (
pLoadN h1 v0 5 fun v87 =>
pCall c (.fn 85 [] []) [a0, v87] h1 fun v88 h89 =>
some (v88, h89)) (
joinC (α := AV × AV × AV × AV × AV × Unit → AH → List Nat → R) (fun s90 h91 d92 =>
pCond s90.1 (
pLoadN h91 s90.2.2.2.1 5 fun v94 =>
pCall c (.fn 86 [] []) [s90.2.2.2.2.1, v94, s90.2.2.1, s90.2.1] h91 fun v95 h96 =>
pLeave d92 h96 fun h97 =>
some (v95, h97)) (
pLoadN h91 s90.2.2.2.1 5 fun v98 =>
pCall c (.fn 87 [] []) [s90.2.2.2.2.1, v98] h91 fun v99 h100 =>
pLeave d92 h100 fun h101 =>
some (v99, h101))) fun j93 =>
pInt .eql v23 (.int .i64 (.ofNat 8)) fun v102 =>
pCond v102 (
j93 (v102, v14, v7, v0, a0, ()) h1 []) (
pInt .eql v23 (.int .i64 (.ofNat 9)) fun v103 =>
pCond v103 (
j93 (v103, v14, v7, v0, a0, ()) h1 []) (
pInt .eql v23 (.int .i64 (.ofNat 10)) fun v104 =>
pCond v104 (
j93 (v104, v14, v7, v0, a0, ()) h1 []) (
pInt .eql v23 (.int .i64 (.ofNat 11)) fun v105 =>
j93 (v105, v14, v7, v0, a0, ()) h1 [])))))))))))))))
theorem S63_eq (c : CV) (a0 a1 : AV) (h : AH) : enterK Tryz.prog NN P63 c 63 [a0, a1] h = S63 c a0 a1 h := by kernel_rfl
def W63 (c : CV) (l : List AV) (h : AH) : R := match l with | [a0, a1] => S63 c a0 a1 h | _ => none
theorem W63_ok : WOk Tryz.prog 63 W63 := by
  intro c l h r e
  unfold W63 at e
  split at e
  · exact ⟨P63, by rw [S63_eq]; exact e⟩
  · cases e
/- (*quietus/slate.Slate).Copy -/
def P64 : Pl := .z
def S64 (c : CV) (a0 : AV) (h : AH) : R :=
pNil a0 fun v0 =>
pFieldA v0 0 fun v1 =>
pLoad1 h v1 fun v2 =>
pCall c (.fn 88 [] []) [v2] h fun v3 h4 =>
pBuild [.nils] [(0, 1, v3)] fun v5 =>
pBox h4 137 v5 fun v6 h7 =>
some (v6, h7)
theorem S64_eq (c : CV) (a0 : AV) (h : AH) : enterK Tryz.prog NN P64 c 64 [a0] h = S64 c a0 h := by kernel_rfl
def W64 (c : CV) (l : List AV) (h : AH) : R := match l with | [a0] => S64 c a0 h | _ => none
theorem W64_ok : WOk Tryz.prog 64 W64 := by
  intro c l h r e
  unfold W64 at e
  split at e
  · exact ⟨P64, by rw [S64_eq]; exact e⟩
  · cases e
/- quietus/slate.word -/
def P65 : Pl := .z
def S65 (c : CV) (a0 : AV) (h : AH) : R :=
pAssertOk 24 (.int .u64 (.ofNat 0)) a0 fun v0 =>
pExtract v0 1 fun v1 =>
pExtract v0 0 fun v2 =>
pCond v1 (
pCall c (.fn 89 [] []) [v2, (.int .i64 (.ofNat 10))] h fun v3 h4 =>
some (v3, h4)) (
pAssertOk 4 (.bool false) a0 fun v5 =>
pExtract v5 1 fun v6 =>
pExtract v5 0 fun v7 =>
pCond v6 (
pCond v7 (
some ((.str [121, 101, 115]), h)) (
some ((.str [110, 111]), h))) (
some ((.str [110, 111, 110, 101]), h)))
theorem S65_eq (c : CV) (a0 : AV) (h : AH) : enterK Tryz.prog NN P65 c 65 [a0] h = S65 c a0 h := by kernel_rfl
def W65 (c : CV) (l : List AV) (h : AH) : R := match l with | [a0] => S65 c a0 h | _ => none
theorem W65_ok : WOk Tryz.prog 65 W65 := by
  intro c l h r e
  unfold W65 at e
  split at e
  · exact ⟨P65, by rw [S65_eq]; exact e⟩
  · cases e
/- strings.Join -/
def P66 : Pl := (.n none .z (.n none .z (.n none .z (.n (some [5, 1, 0]) (.n none .z (.n none (.n (some [5, 1, 0]) .z .z) .z)) (.n none (.n none .z (.n none (.n (some [41, 40, 39, 5, 1, 0]) (.n none .z (.n none .z (.n none (.n none (.n none .z (.n (some [41, 40, 39, 7, 5, 1, 0]) .z .z)) .z) .z))) .z) .z)) (.n none .z (.n none .z (.n none .z (.n none (.n none .z (.n none (.n (some [65, 64, 63, 8, 1]) .z .z) .z)) .z)))))))))
def S66 (c : CV) (a0 a1 : AV) (h : AH) : R :=
pLenS a0 fun v0 =>
pInt .eql v0 (.int .i64 (.ofNat 0)) fun v1 =>
pCond v1 (
some ((.str []), h)) (
pInt .eql v0 (.int .i64 (.ofNat 1)) fun v2 =>
pCond v2 (
pIdxS a0 (.int .i64 (.ofNat 0)) 1 fun v3 =>
pLoad1 h v3 fun v4 =>
some (v4, h)) (
joinC (α := AV × AV × AV × Unit → AH → List Nat → R) (fun s5 h6 d7 =>
pLenS s5.2.2.1 fun v9 =>
loopC (σ := AV × AV × AV × AV × AV × AV × Unit) NN (fun i13 s10 h11 d12 =>
pInt .lss s10.1 s10.2.1 fun v14 =>
pCond v14 (
pIdxS s10.2.2.1 s10.1 1 fun v15 =>
pLoad1 h11 v15 fun v16 =>
joinC (α := AV × AV × AV × AV × AV × AV × AV × Unit → AH → List Nat → R) (fun s17 h18 d19 =>
pLenStr s17.2.2.2.1 fun v21 =>
pInt .add s17.2.2.2.2.1 v21 fun v22 =>
pInt .add s17.1 (.int .i64 (.ofNat 1)) fun v23 =>
i13 (v23, s17.2.1, s17.2.2.1, v22, s17.2.2.2.2.2.1, s17.2.2.2.2.2.2.1, ()) h18 d19) fun j20 =>
pLenStr v16 fun v24 =>
pInt .sub (.int .i64 (.ofNat 9223372036854775807)) s10.2.2.2.1 fun v25 =>
pInt .gtr v24 v25 fun v26 =>
pCond v26 (
none /- op -/) (
j20 (s10.1, s10.2.1, s10.2.2.1, v16, s10.2.2.2.1, s10.2.2.2.2.1, s10.2.2.2.2.2.1, ()) h11 d12)) (
pBox h11 169 (.agg [.nilp, .nils]) fun v27 h28 =>
pCall c (.fn 90 [] []) [v27, s10.2.2.2.1] h28 fun _ h30 =>
pIdxS s10.2.2.2.2.2.1 (.int .i64 (.ofNat 0)) 1 fun v31 =>
pLoad1 h30 v31 fun v32 =>
pCall c (.fn 91 [] []) [v27, v32] h30 fun _ h34 =>
pSlice h34 9 1 s10.2.2.2.2.2.1 (some (.int .i64 (.ofNat 1))) none fun v35 =>
pLenS v35 fun v36 =>
loopC (σ := AV × AV × AV × AV × AV × Unit) NN (fun i40 s37 h38 d39 =>
pInt .lss s37.1 s37.2.1 fun v41 =>
pCond v41 (
pIdxS s37.2.2.1 s37.1 1 fun v42 =>
pLoad1 h38 v42 fun v43 =>
pCall c (.fn 91 [] []) [s37.2.2.2.1, s37.2.2.2.2.1] h38 fun _ h45 =>
pCall c (.fn 91 [] []) [s37.2.2.2.1, v43] h45 fun _ h47 =>
pInt .add s37.1 (.int .i64 (.ofNat 1)) fun v48 =>
i40 (v48, s37.2.1, s37.2.2.1, s37.2.2.2.1, s37.2.2.2.2.1, ()) h47 d39) (
pCall c (.fn 92 [] []) [s37.2.2.2.1] h38 fun v49 h50 =>
pLeave d39 h50 fun h51 =>
some (v49, h51))) ((.int .i64 (.ofNat 0)), v36, v35, v27, s10.2.2.2.2.1, ()) h34 d12)) ((.int .i64 (.ofNat 0)), v9, s5.2.2.1, s5.1, s5.2.1, s5.2.2.1, ()) h6 d7) fun j8 =>
pLenStr a1 fun v52 =>
pInt .gtr v52 (.int .i64 (.ofNat 0)) fun v53 =>
pCond v53 (
joinC (α := AV × AV × AV × Unit → AH → List Nat → R) (fun s54 h55 d56 =>
pLenStr s54.2.1 fun v58 =>
pLenS s54.2.2.1 fun v59 =>
pInt .sub v59 (.int .i64 (.ofNat 1)) fun v60 =>
pInt .mul v58 v60 fun v61 =>
pInt .add s54.1 v61 fun v62 =>
j8 (v62, s54.2.1, s54.2.2.1, ()) h55 d56) fun j57 =>
pLenStr a1 fun v63 =>
pLenS a0 fun v64 =>
pInt .sub v64 (.int .i64 (.ofNat 1)) fun v65 =>
pInt .quo (.int .i64 (.ofNat 9223372036854775807)) v65 fun v66 =>
pInt .geq v63 v66 fun v67 =>
pCond v67 (
none /- op -/) (
j57 ((.int .i64 (.ofNat 0)), a1, a0, ()) h [])) (
j8 ((.int .i64 (.ofNat 0)), a1, a0, ()) h [])))
theorem S66_eq (c : CV) (a0 a1 : AV) (h : AH) : enterK Tryz.prog NN P66 c 66 [a0, a1] h = S66 c a0 a1 h := by kernel_rfl
def W66 (c : CV) (l : List AV) (h : AH) : R := match l with | [a0, a1] => S66 c a0 a1 h | _ => none
theorem W66_ok : WOk Tryz.prog 66 W66 := by
  intro c l h r e
  unfold W66 at e
  split at e
  · exact ⟨P66, by rw [S66_eq]; exact e⟩
  · cases e
/- (*quietus/levels.Levels).Frees -/
def P67 : Pl := (.n none .z (.n none .z (.n none (.n none .z (.n none (.n (some [11, 10, 9, 3]) .z .z) .z)) .z)))
def S67 (_ : CV) (a0 : AV) (h : AH) : R :=
pNil a0 fun v0 =>
pFieldA v0 1 fun v1 =>
pLoad1 h v1 fun v2 =>
pLenS v2 fun v3 =>
loopC (σ := AV × AV × AV × AV × Unit) NN (fun i7 s4 h5 d6 =>
pInt .lss s4.1 s4.2.1 fun v8 =>
pCond v8 (
pIdxS s4.2.2.1 s4.1 1 fun v9 =>
pLoad1 h5 v9 fun v10 =>
pNil v10 fun v11 =>
pFieldA v11 1 fun v12 =>
pLoad1 h5 v12 fun v13 =>
pAppend h5 3 1 s4.2.2.2.1 v13 fun v14 h15 =>
pInt .add s4.1 (.int .i64 (.ofNat 1)) fun v16 =>
i7 (v16, s4.2.1, s4.2.2.1, v14, ()) h15 d6) (
pLeave d6 h5 fun h17 =>
some (s4.2.2.2.1, h17))) ((.int .i64 (.ofNat 0)), v3, v2, .nils, ()) h []
theorem S67_eq (c : CV) (a0 : AV) (h : AH) : enterK Tryz.prog NN P67 c 67 [a0] h = S67 c a0 h := by kernel_rfl
def W67 (c : CV) (l : List AV) (h : AH) : R := match l with | [a0] => S67 c a0 h | _ => none
theorem W67_ok : WOk Tryz.prog 67 W67 := by
  intro c l h r e
  unfold W67 at e
  split at e
  · exact ⟨P67, by rw [S67_eq]; exact e⟩
  · cases e
/- slices.rotateCmpFunc[int] -/
def P68 : Pl := (.n none .z (.n none .z (.n none (.n none (.n (some [11, 10, 4, 2, 0]) (.n none .z (.n (some [11, 10, 4, 2, 0]) .z .z)) .z) .z) .z)))
def S68 (c : CV) (a0 a1 a2 a3 a4 : AV) (h : AH) : R :=
pInt .sub a2 a1 fun v0 =>
pInt .sub a3 a2 fun v1 =>
loopC (σ := AV × AV × AV × AV × AV × Unit) NN (fun i5 s2 h3 d4 =>
pInt .neq s2.2.1 s2.1 fun v6 =>
pCond v6 (
joinC (α := AV × AV × AV × AV × AV × Unit → AH → List Nat → R) (fun s7 h8 d9 =>
i5 (s7.1, s7.2.1, s7.2.2.1, s7.2.2.2.1, s7.2.2.2.2.1, ()) h8 d9) fun j10 =>
pInt .gtr s2.2.1 s2.1 fun v11 =>
pCond v11 (
pInt .sub s2.2.2.2.1 s2.2.1 fun v12 =>
pCall c (.fn 93 [] []) [s2.2.2.2.2.1, v12, s2.2.2.2.1, s2.1, s2.2.2.1] h3 fun _ h14 =>
pInt .sub s2.2.1 s2.1 fun v15 =>
j10 (s2.1, v15, s2.2.2.1, s2.2.2.2.1, s2.2.2.2.2.1, ()) h14 d4) (
pInt .sub s2.2.2.2.1 s2.2.1 fun v16 =>
pInt .add s2.2.2.2.1 s2.1 fun v17 =>
pInt .sub v17 s2.2.1 fun v18 =>
pCall c (.fn 93 [] []) [s2.2.2.2.2.1, v16, v18, s2.2.1, s2.2.2.1] h3 fun _ h20 =>
pInt .sub s2.1 s2.2.1 fun v21 =>
j10 (v21, s2.2.1, s2.2.2.1, s2.2.2.2.1, s2.2.2.2.2.1, ()) h20 d4)) (
pInt .sub s2.2.2.2.1 s2.2.1 fun v22 =>
pCall c (.fn 93 [] []) [s2.2.2.2.2.1, v22, s2.2.2.2.1, s2.2.1, s2.2.2.1] h3 fun _ h24 =>
pLeave d4 h24 fun h25 =>
some ((.tup []), h25))) (v1, v0, a4, a2, a0, ()) h []
theorem S68_eq (c : CV) (a0 a1 a2 a3 a4 : AV) (h : AH) : enterK Tryz.prog NN P68 c 68 [a0, a1, a2, a3, a4] h = S68 c a0 a1 a2 a3 a4 h := by kernel_rfl
def W68 (c : CV) (l : List AV) (h : AH) : R := match l with | [a0, a1, a2, a3, a4] => S68 c a0 a1 a2 a3 a4 h | _ => none
theorem W68_ok : WOk Tryz.prog 68 W68 := by
  intro c l h r e
  unfold W68 at e
  split at e
  · exact ⟨P68, by rw [S68_eq]; exact e⟩
  · cases e
/- quietus/levels.New -/
def P69 : Pl := .z
def S69 (c : CV) (a0 : AV) (h : AH) : R :=
pMM false [a0, (.int .i64 (.ofNat 96))] fun v0 =>
pMM true [(.int .i64 (.ofNat 0)), v0] fun v1 =>
pCall c (.fn 94 [] []) [] h fun v2 h3 =>
pBuildS h3 150 [.nilp] 1 [(0, 1, v2)] fun v4 h5 =>
pBuild [(.int .i64 (.ofNat 0)), .nils] [(0, 1, v1), (1, 1, v4)] fun v6 =>
pBox h5 152 v6 fun v7 h8 =>
some (v7, h8)
theorem S69_eq (c : CV) (a0 : AV) (h : AH) : enterK Tryz.prog NN P69 c 69 [a0] h = S69 c a0 h := by kernel_rfl
def W69 (c : CV) (l : List AV) (h : AH) : R := match l with | [a0] => S69 c a0 h | _ => none
theorem W69_ok : WOk Tryz.prog 69 W69 := by
  intro c l h r e
  unfold W69 at e
  split at e
  · exact ⟨P69, by rw [S69_eq]; exact e⟩
  · cases e
/- (*quietus/view.View).is -/
def P70 : Pl := (.n none .z (.n none (.r [[14, 7]]) .z))
def S70 (_ : CV) (a0 a1 : AV) (h : AH) : R :=
pInt .geq a1 (.int .i64 (.ofNat 1)) fun v0 =>
joinC (α := AV × AV × Unit → AH → R) (fun s1 h2 =>
pPick s1.2.1 s1.1 (.bool false) fun v4 =>
some (v4, h2)) fun j3 =>
pWant v0 true (
pNil a0 fun v5 =>
pFieldA v5 0 fun v6 =>
pLoad1 h v6 fun v7 =>
pLenS v7 fun v8 =>
pInt .lss a1 v8 fun v9 =>
j3 (v9, v0, ()) h) (
j3 (.undef, v0, ()) h)
theorem S70_eq (c : CV) (a0 a1 : AV) (h : AH) : enterK Tryz.prog NN P70 c 70 [a0, a1] h = S70 c a0 a1 h := by kernel_rfl
def W70 (c : CV) (l : List AV) (h : AH) : R := match l with | [a0, a1] => S70 c a0 a1 h | _ => none
theorem W70_ok : WOk Tryz.prog 70 W70 := by
  intro c l h r e
  unfold W70 at e
  split at e
  · exact ⟨P70, by rw [S70_eq]; exact e⟩
  · cases e
/- (*quietus/levels.Levels).Get -/
def P71 : Pl := (.n none .z (.n none (.n none .z (.n none (.n (some [5, 4, 3]) .z .z) .z)) .z))
def S71 (c : CV) (a0 a1 : AV) (h : AH) : R :=
pBox h 3 a1 fun v0 h1 =>
pBox h1 24 (.int .u64 (.ofNat 0)) fun v2 h3 =>
pBox h3 4 (.bool false) fun v4 h5 =>
pNil a0 fun v6 =>
pFieldA v6 1 fun v7 =>
pLoad1 h5 v7 fun v8 =>
pCall c (.fn 73 [] []) [v8] h5 fun v9 h10 =>
pCallF c v9 [.yield (h10.new .dfd).nx] ((h10.new .dfd).new (.loop .ready none 71 [1, 0, 1, 0] [5, 4, 3] [v4, v2, v0] h10.nx)) fun _ h11 =>
pEndLoop h11 (h10.new .dfd).nx fun p13 h12 =>
pNone p13 (
pStore h12 v2 (.int .u64 (.ofNat 0)) 1 fun h14 =>
pStore h14 v4 (.bool false) 1 fun h15 =>
pLeave (h10.nx :: []) h15 fun h16 =>
pLoad1 h16 v2 fun v17 =>
pLoad1 h16 v4 fun v18 =>
some ((.tup [v17, v18]), h16)) <|
pIs p13 .ret (
pLeave (h10.nx :: []) h12 fun h19 =>
pLoad1 h19 v2 fun v20 =>
pLoad1 h19 v4 fun v21 =>
some ((.tup [v20, v21]), h19)) <|
none
theorem S71_eq (c : CV) (a0 a1 : AV) (h : AH) : enterK Tryz.prog NN P71 c 71 [a0, a1] h = S71 c a0 a1 h := by kernel_rfl
def W71 (c : CV) (l : List AV) (h : AH) : R := match l with | [a0, a1] => S71 c a0 a1 h | _ => none
theorem W71_ok : WOk Tryz.prog 71 W71 := by
  intro c l h r e
  unfold W71 at e
  split at e
  · exact ⟨P71, by rw [S71_eq]; exact e⟩
  · cases e
/- (*quietus/levels.Levels).Take -/
def P72 : Pl := (.n none .z (.n none .z (.n none .z (.n none (.n none .z (.n none (.n (some [20, 19, 18, 5, 0]) .z .z) .z)) .z))))
def S72 (c : CV) (a0 a1 : AV) (h : AH) : R :=
pCall c (.fn 74 [] []) [(.int .i64 (.ofNat 96))] h fun v0 h1 =>
pCall c (.fn 96 [] []) [a0] h1 fun v2 h3 =>
pNil v2 fun v4 =>
pFieldA v4 0 fun v5 =>
pLoad1 h3 v5 fun v6 =>
pCall c (.fn 76 [] []) [v6] h3 fun v7 h8 =>
pCall c (.fn 75 [] []) [v0, v7] h8 fun _ h10 =>
pLenS a1 fun v11 =>
loopC (σ := AV × AV × AV × AV × AV × Unit) NN (fun i15 s12 h13 d14 =>
pInt .lss s12.1 s12.2.1 fun v16 =>
pCond v16 (
pIdxS s12.2.2.1 s12.1 2 fun v17 =>
pLoadN h13 v17 2 fun v18 =>
pBox h13 35 (.agg [(.int .i64 (.ofNat 0)), (.int .u64 (.ofNat 0))]) fun v19 h20 =>
pStore h20 v19 v18 2 fun h21 =>
pFieldA v19 0 fun v22 =>
pLoad1 h21 v22 fun v23 =>
pFieldA v19 1 fun v24 =>
pLoad1 h21 v24 fun v25 =>
pCall c (.fn 97 [] []) [s12.2.2.2.2.1, v23, v25] h21 fun v26 h27 =>
pInt .neq v26 (.int .i64 (.ofNat 0)) fun v28 =>
pCond v28 (
pCall c (.fn 96 [] []) [s12.2.2.2.2.1] h27 fun v29 h30 =>
pNil v29 fun v31 =>
pFieldA v31 0 fun v32 =>
pStore h30 v32 s12.2.2.2.1 1 fun h33 =>
pLeave d14 h33 fun h34 =>
some (v26, h34)) (
pInt .add s12.1 (.int .i64 (.ofNat 1)) fun v35 =>
i15 (v35, s12.2.1, s12.2.2.1, s12.2.2.2.1, s12.2.2.2.2.1, ()) h27 d14)) (
pLeave d14 h13 fun h36 =>
some ((.int .i64 (.ofNat 0)), h36))) ((.int .i64 (.ofNat 0)), v11, a1, v0, a0, ()) h10 []
theorem S72_eq (c : CV) (a0 a1 : AV) (h : AH) : enterK Tryz.prog NN P72 c 72 [a0, a1] h = S72 c a0 a1 h := by kernel_rfl
def W72 (c : CV) (l : List AV) (h : AH) : R := match l with | [a0, a1] => S72 c a0 a1 h | _ => none
theorem W72_ok : WOk Tryz.prog 72 W72 := by
  intro c l h r e
  unfold W72 at e
  split at e
  · exact ⟨P72, by rw [S72_eq]; exact e⟩
  · cases e
/- slices.Backward[[]*quietus/levels.level,*quietus/levels.level] -/
def P73 : Pl := .z
def S73 (_ : CV) (a0 : AV) (h : AH) : R :=
pBox h 149 a0 fun v0 h1 =>
some ((.fn 98 [] [v0]), h1)
theorem S73_eq (c : CV) (a0 : AV) (h : AH) : enterK Tryz.prog NN P73 c 73 [a0] h = S73 c a0 h := by kernel_rfl
def W73 (c : CV) (l : List AV) (h : AH) : R := match l with | [a0] => S73 c a0 h | _ => none
theorem W73_ok : WOk Tryz.prog 73 W73 := by
  intro c l h r e
  unfold W73 at e
  split at e
  · exact ⟨P73, by rw [S73_eq]; exact e⟩
  · cases e
/- quietus/writes.New -/
def P74 : Pl := .z
def S74 (_ : CV) (a0 : AV) (h : AH) : R :=
pMM false [a0, (.int .i64 (.ofNat 96))] fun v0 =>
pMM true [(.int .i64 (.ofNat 0)), v0] fun v1 =>
pBuild [(.int .i64 (.ofNat 0)), .nils] [(0, 1, v1)] fun v2 =>
pBox h 178 v2 fun v3 h4 =>
some (v3, h4)
theorem S74_eq (c : CV) (a0 : AV) (h : AH) : enterK Tryz.prog NN P74 c 74 [a0] h = S74 c a0 h := by kernel_rfl
def W74 (c : CV) (l : List AV) (h : AH) : R := match l with | [a0] => S74 c a0 h | _ => none
theorem W74_ok : WOk Tryz.prog 74 W74 := by
  intro c l h r e
  unfold W74 at e
  split at e
  · exact ⟨P74, by rw [S74_eq]; exact e⟩
  · cases e
/- (*quietus/writes.Writes).Take -/
def P75 : Pl := (.n none .z (.n none .z (.n none (.n none .z (.n none (.n (some [13, 12, 11, 5, 0]) .z .z) .z)) .z)))
def S75 (c : CV) (a0 a1 : AV) (h : AH) : R :=
pCall c (.fn 76 [] []) [a0] h fun v0 h1 =>
pLenS a1 fun v2 =>
loopC (σ := AV × AV × AV × AV × AV × Unit) NN (fun i6 s3 h4 d5 =>
pInt .lss s3.1 s3.2.1 fun v7 =>
pCond v7 (
pIdxS s3.2.2.1 s3.1 2 fun v8 =>
pLoadN h4 v8 2 fun v9 =>
pBox h4 35 (.agg [(.int .i64 (.ofNat 0)), (.int .u64 (.ofNat 0))]) fun v10 h11 =>
pStore h11 v10 v9 2 fun h12 =>
pFieldA v10 0 fun v13 =>
pLoad1 h12 v13 fun v14 =>
pFieldA v10 1 fun v15 =>
pLoad1 h12 v15 fun v16 =>
pCall c (.fn 99 [] []) [s3.2.2.2.2.1, v14, v16] h12 fun v17 h18 =>
pInt .neq v17 (.int .i64 (.ofNat 0)) fun v19 =>
pCond v19 (
pNil s3.2.2.2.2.1 fun v20 =>
pFieldA v20 1 fun v21 =>
pStore h18 v21 s3.2.2.2.1 1 fun h22 =>
pLeave d5 h22 fun h23 =>
some (v17, h23)) (
pInt .add s3.1 (.int .i64 (.ofNat 1)) fun v24 =>
i6 (v24, s3.2.1, s3.2.2.1, s3.2.2.2.1, s3.2.2.2.2.1, ()) h18 d5)) (
pLeave d5 h4 fun h25 =>
some ((.int .i64 (.ofNat 0)), h25))) ((.int .i64 (.ofNat 0)), v2, a1, v0, a0, ()) h1 []
theorem S75_eq (c : CV) (a0 a1 : AV) (h : AH) : enterK Tryz.prog NN P75 c 75 [a0, a1] h = S75 c a0 a1 h := by kernel_rfl
def W75 (c : CV) (l : List AV) (h : AH) : R := match l with | [a0, a1] => S75 c a0 a1 h | _ => none
theorem W75_ok : WOk Tryz.prog 75 W75 := by
  intro c l h r e
  unfold W75 at e
  split at e
  · exact ⟨P75, by rw [S75_eq]; exact e⟩
  · cases e
/- (*quietus/writes.Writes).All -/
def P76 : Pl := .z
def S76 (c : CV) (a0 : AV) (h : AH) : R :=
pNil a0 fun v0 =>
pFieldA v0 1 fun v1 =>
pLoad1 h v1 fun v2 =>
pCall c (.fn 100 [] []) [v2] h fun v3 h4 =>
some (v3, h4)
theorem S76_eq (c : CV) (a0 : AV) (h : AH) : enterK Tryz.prog NN P76 c 76 [a0] h = S76 c a0 h := by kernel_rfl
def W76 (c : CV) (l : List AV) (h : AH) : R := match l with | [a0] => S76 c a0 h | _ => none
theorem W76_ok : WOk Tryz.prog 76 W76 := by
  intro c l h r e
  unfold W76 at e
  split at e
  · exact ⟨P76, by rw [S76_eq]; exact e⟩
  · cases e
/- quietus/check.wrong -/
def P77 : Pl := (.n none .z (.n none (.n none (.n none .z (.n none .z (.n none (.r [[11, 5, 3, 1]]) (.n none .z (.n none (.r [[33, 29, 5, 1]]) (.n none .z (.n none (.r [[42, 39]]) .z))))))) .z) .z))
def S77 (c : CV) (a0 a1 a2 : AV) (h : AH) : R :=
pBox h 33 a0 fun v0 h1 =>
pBox h1 30 a2 fun v2 h3 =>
pLoadN h3 v2 5 fun v4 =>
pCall c (.fn 101 [] []) [v4] h3 fun v5 h6 =>
pUn .not v5 fun v7 =>
pCond v7 (
some ((.int .i64 (.ofNat 8)), h6)) (
joinC (α := AV × AV × AV × AV × Unit → AH → R) (fun s8 h9 =>
pCond s8.1 (
some ((.int .i64 (.ofNat 12)), h9)) (
pFieldA s8.2.1 0 fun v11 =>
pLoad1 h9 v11 fun v12 =>
pInt .eql v12 (.int .i64 (.ofNat 16)) fun v13 =>
joinC (α := AV × AV × AV × AV × Unit → AH → R) (fun s14 h15 =>
pPick s14.2.1 s14.1 (.bool false) fun v17 =>
pCond v17 (
some ((.int .i64 (.ofNat 12)), h15)) (
pFieldA s14.2.2.1 0 fun v18 =>
pLoad1 h15 v18 fun v19 =>
pCall c (.fn 103 [] []) [v19] h15 fun v20 h21 =>
joinC (α := AV × AV × Unit → AH → R) (fun s22 h23 =>
pPick s22.2.1 s22.1 (.bool false) fun v25 =>
pCond v25 (
some ((.int .i64 (.ofNat 9)), h23)) (
some ((.int .i64 (.ofNat 0)), h23))) fun j24 =>
pWant v20 true (
pLenS s14.2.2.2.1 fun v26 =>
pInt .geq v26 (.int .i64 (.ofNat 5)) fun v27 =>
j24 (v27, v20, ()) h21) (
j24 (.undef, v20, ()) h21))) fun j16 =>
pWant v13 true (
pLoadN h9 s8.2.2.1 1 fun v28 =>
pCall c (.fn 102 [] []) [s8.2.2.2.1, v28] h9 fun v29 h30 =>
pInt .neq v29 (.int .i64 (.ofNat 14)) fun v31 =>
j16 (v31, v13, s8.2.1, s8.2.2.2.1, ()) h30) (
j16 (.undef, v13, s8.2.1, s8.2.2.2.1, ()) h9))) fun j10 =>
pFieldA v2 0 fun v32 =>
pLoad1 h6 v32 fun v33 =>
pCall c (.fn 82 [] []) [v33] h6 fun v34 h35 =>
pInt .gtr v34 (.int .i64 (.ofNat 0)) fun v36 =>
pWant v36 true (
pLoadN h35 v0 1 fun v37 =>
pCall c (.fn 102 [] []) [a1, v37] h35 fun v38 h39 =>
pFieldA v2 0 fun v40 =>
pLoad1 h39 v40 fun v41 =>
pCall c (.fn 82 [] []) [v41] h39 fun v42 h43 =>
pInt .neq v38 v42 fun v44 =>
pPick v36 v44 (.bool false) fun v45 =>
pChk v40 none v41 h35 h39 h6.nx <|
j10 (v45, v2, v0, a1, ()) h43) (
pPick v36 .undef (.bool false) fun v46 =>
j10 (v46, v2, v0, a1, ()) h35))
theorem S77_eq (c : CV) (a0 a1 a2 : AV) (h : AH) : enterK Tryz.prog NN P77 c 77 [a0, a1, a2] h = S77 c a0 a1 a2 h := by kernel_rfl
def W77 (c : CV) (l : List AV) (h : AH) : R := match l with | [a0, a1, a2] => S77 c a0 a1 a2 h | _ => none
theorem W77_ok : WOk Tryz.prog 77 W77 := by
  intro c l h r e
  unfold W77 at e
  split at e
  · exact ⟨P77, by rw [S77_eq]; exact e⟩
  · cases e
/- (quietus/check.stack).behind -/
def P78 : Pl := (.n none .z (.n (some [2, 1, 0]) .z (.n (some [0]) (.n none (.r [[19, 17, 1, 0]]) .z) .z)))
def S78 (c : CV) (a0 a1 a2 : AV) (h : AH) : R :=
joinC (α := AV × AV × AV × Unit → AH → List Nat → R) (fun s0 h1 d2 =>
joinC (α := AV × Unit → AH → List Nat → R) (fun s4 h5 d6 =>
pLeave d6 h5 fun h8 =>
some (s4.1, h8)) fun j7 =>
pCall c (.fn 103 [] []) [s0.1] h1 fun v9 h10 =>
joinC (α := AV × AV × AV × AV × Unit → AH → R) (fun s11 h12 =>
pPick s11.2.1 (.bool true) s11.1 fun v14 =>
pCond v14 (
pBuildS h12 3 [(.int .i64 (.ofNat 0))] 1 [(0, 1, s11.2.2.1)] fun v15 h16 =>
pAppend h16 3 1 s11.2.2.2.1 v15 fun v17 h18 =>
j7 (v17, ()) h18 d2) (
j7 (s11.2.2.2.1, ()) h12 d2)) fun j13 =>
pWant v9 false (
pInt .eql s0.1 (.int .i64 (.ofNat 18)) fun v19 =>
j13 (v19, v9, s0.2.1, s0.2.2.1, ()) h10) (
j13 (.undef, v9, s0.2.1, s0.2.2.1, ()) h10)) fun j3 =>
pCall c (.fn 82 [] []) [a2] h fun v20 h21 =>
pInt .gtr v20 (.int .i64 (.ofNat 0)) fun v22 =>
pCond v22 (
pLenS a0 fun v23 =>
pInt .sub v23 (.int .i64 (.ofNat 1)) fun v24 =>
pSlice h21 3 1 a0 none (some v24) fun v25 =>
j3 (a2, a1, v25, ()) h21 []) (
j3 (a2, a1, a0, ()) h21 [])
theorem S78_eq (c : CV) (a0 a1 a2 : AV) (h : AH) : enterK Tryz.prog NN P78 c 78 [a0, a1, a2] h = S78 c a0 a1 a2 h := by kernel_rfl
def W78 (c : CV) (l : List AV) (h : AH) : R := match l with | [a0, a1, a2] => S78 c a0 a1 a2 h | _ => none
theorem W78_ok : WOk Tryz.prog 78 W78 := by
  intro c l h r e
  unfold W78 at e
  split at e
  · exact ⟨P78, by rw [S78_eq]; exact e⟩
  · cases e
/- (quietus/check.stack).inmost -/
def P79 : Pl := .z
def S79 (_ : CV) (a0 : AV) (h : AH) : R :=
pLenS a0 fun v0 =>
pInt .eql v0 (.int .i64 (.ofNat 0)) fun v1 =>
pCond v1 (
some ((.int .i64 (.negSucc 0)), h)) (
pLenS a0 fun v2 =>
pInt .sub v2 (.int .i64 (.ofNat 1)) fun v3 =>
pIdxS a0 v3 1 fun v4 =>
pLoad1 h v4 fun v5 =>
some (v5, h))
theorem S79_eq (c : CV) (a0 : AV) (h : AH) : enterK Tryz.prog NN P79 c 79 [a0] h = S79 c a0 h := by kernel_rfl
def W79 (c : CV) (l : List AV) (h : AH) : R := match l with | [a0] => S79 c a0 h | _ => none
theorem W79_ok : WOk Tryz.prog 79 W79 := by
  intro c l h r e
  unfold W79 at e
  split at e
  · exact ⟨P79, by rw [S79_eq]; exact e⟩
  · cases e
/- quietus/check.jumps -/
def P80 : Pl := (.n none .z (.n none (.n none .z (.n none (.n (some [11, 10, 9, 2, 1]) (.n none .z (.n none .z (.n none (.n (some [11, 10, 9, 2, 1]) (.n none .z (.n none .z (.n none (.r [[33, 26, 11, 10, 9, 7, 6, 2, 1], [38, 33, 26, 11, 10, 9, 7, 6, 2, 1], [39, 26, 11, 10, 9, 7, 6, 2, 1], [48, 41, 11, 10, 9, 7, 6, 2, 1], [58, 48, 41, 11, 10, 9, 6, 2, 1], [59, 41, 11, 10, 9, 6, 2, 1]]) .z))) .z) .z))) .z) .z)) .z))
def S80 (c : CV) (a0 a1 : AV) (h : AH) : R :=
pBox h 33 a0 fun v0 h1 =>
pFieldA v0 0 fun v2 =>
pLoad1 h1 v2 fun v3 =>
pLenS v3 fun v4 =>
loopC (σ := AV × AV × AV × AV × AV × Unit) NN (fun i8 s5 h6 d7 =>
pInt .lss s5.1 s5.2.1 fun v9 =>
pCond v9 (
joinC (α := AV × AV × AV × AV × AV × Unit → AH → List Nat → R) (fun s10 h11 d12 =>
pInt .add s10.1 (.int .i64 (.ofNat 1)) fun v14 =>
i8 (v14, s10.2.1, s10.2.2.1, s10.2.2.2.1, s10.2.2.2.2.1, ()) h11 d12) fun j13 =>
pIdxS s5.2.2.1 s5.1 5 fun v15 =>
pLoadN h6 v15 5 fun v16 =>
pBox h6 30 (.agg [(.int .i64 (.ofNat 0)), (.int .i64 (.ofNat 0)), (.int .i64 (.ofNat 0)), (.int .i64 (.ofNat 0)), (.int .u64 (.ofNat 0))]) fun v17 h18 =>
pStore h18 v17 v16 5 fun h19 =>
pFieldA v17 0 fun v20 =>
pLoad1 h19 v20 fun v21 =>
pCall c (.fn 104 [] []) [v21] h19 fun v22 h23 =>
pUn .not v22 fun v24 =>
pCond v24 (
j13 (s5.1, s5.2.1, s5.2.2.1, s5.2.2.2.1, s5.2.2.2.2.1, ()) h23 d7) (
pFieldA v17 3 fun v25 =>
pLoad1 h23 v25 fun v26 =>
pFieldA s5.2.2.2.1 0 fun v27 =>
pLoad1 h23 v27 fun v28 =>
pLenS v28 fun v29 =>
pInt .gtr v26 v29 fun v30 =>
joinC (α := AV × AV × AV × AV × AV × AV × AV × AV × AV × Unit → AH → R) (fun s31 h32 =>
joinC (α := AV × AV × AV × AV × AV × AV × AV × AV × AV × AV × Unit → AH → R) (fun s34 h35 =>
joinC (α := AV × AV × AV × AV × AV × AV × AV × AV × AV × Unit → AH → R) (fun s37 h38 =>
pPick s37.2.1 (.bool true) s37.1 fun v40 =>
joinC (α := AV × AV × AV × AV × AV × AV × AV × AV × AV × Unit → AH → R) (fun s41 h42 =>
joinC (α := AV × AV × AV × AV × AV × AV × AV × AV × AV × Unit → AH → R) (fun s44 h45 =>
joinC (α := AV × AV × AV × AV × AV × AV × AV × AV × Unit → AH → R) (fun s47 h48 =>
pPick s47.2.1 (.bool true) s47.1 fun v50 =>
pCond v50 (
pLeave d7 h48 fun h51 =>
some ((.tup [s47.2.2.2.2.2.1, (.int .i64 (.ofNat 2))]), h51)) (
j13 (s47.2.2.1, s47.2.2.2.1, s47.2.2.2.2.1, s47.2.2.2.2.2.2.1, s47.2.2.2.2.2.2.2.1, ()) h48 d7)) fun j49 =>
pWant s44.2.2.1 false (
pPick s44.2.1 s44.1 (.bool false) fun v52 =>
j49 (v52, s44.2.2.1, s44.2.2.2.1, s44.2.2.2.2.1, s44.2.2.2.2.2.1, s44.2.2.2.2.2.2.1, s44.2.2.2.2.2.2.2.1, s44.2.2.2.2.2.2.2.2.1, ()) h45) (
j49 (.undef, s44.2.2.1, s44.2.2.2.1, s44.2.2.2.2.1, s44.2.2.2.2.2.1, s44.2.2.2.2.2.2.1, s44.2.2.2.2.2.2.2.1, s44.2.2.2.2.2.2.2.2.1, ()) h45)) fun j46 =>
pWant s41.1 true (
pFieldA s41.2.2.2.2.2.1 3 fun v53 =>
pLoad1 h42 v53 fun v54 =>
pIdxS s41.2.2.2.2.2.2.2.2.1 v54 1 fun v55 =>
pLoad1 h42 v55 fun v56 =>
pIdxS s41.2.2.2.2.2.2.2.2.1 s41.2.2.2.2.2.2.1 1 fun v57 =>
pLoad1 h42 v57 fun v58 =>
pInt .neq v56 v58 fun v59 =>
j46 (v59, s41.1, s41.2.1, s41.2.2.1, s41.2.2.2.1, s41.2.2.2.2.1, s41.2.2.2.2.2.2.1, s41.2.2.2.2.2.2.2.1, s41.2.2.2.2.2.2.2.2.1, ()) h42) (
j46 (.undef, s41.1, s41.2.1, s41.2.2.1, s41.2.2.2.1, s41.2.2.2.2.1, s41.2.2.2.2.2.2.1, s41.2.2.2.2.2.2.2.1, s41.2.2.2.2.2.2.2.2.1, ()) h42)) fun j43 =>
pWant v40 false (
pFieldA s37.2.2.2.2.2.1 3 fun v60 =>
pLoad1 h38 v60 fun v61 =>
pFieldA s37.2.2.2.2.2.2.2.1 0 fun v62 =>
pLoad1 h38 v62 fun v63 =>
pLenS v63 fun v64 =>
pInt .lss v61 v64 fun v65 =>
j43 (v65, v40, s37.2.2.1, s37.2.2.2.1, s37.2.2.2.2.1, s37.2.2.2.2.2.1, s37.2.2.2.2.2.2.1, s37.2.2.2.2.2.2.2.1, s37.2.2.2.2.2.2.2.2.1, ()) h38) (
j43 (.undef, v40, s37.2.2.1, s37.2.2.2.1, s37.2.2.2.2.1, s37.2.2.2.2.2.1, s37.2.2.2.2.2.2.1, s37.2.2.2.2.2.2.2.1, s37.2.2.2.2.2.2.2.2.1, ()) h38)) fun j39 =>
pWant s34.2.2.1 false (
pPick s34.2.1 s34.1 (.bool false) fun v66 =>
j39 (v66, s34.2.2.1, s34.2.2.2.1, s34.2.2.2.2.1, s34.2.2.2.2.2.1, s34.2.2.2.2.2.2.1, s34.2.2.2.2.2.2.2.1, s34.2.2.2.2.2.2.2.2.1, s34.2.2.2.2.2.2.2.2.2.1, ()) h35) (
j39 (.undef, s34.2.2.1, s34.2.2.2.1, s34.2.2.2.2.1, s34.2.2.2.2.2.1, s34.2.2.2.2.2.2.1, s34.2.2.2.2.2.2.2.1, s34.2.2.2.2.2.2.2.2.1, s34.2.2.2.2.2.2.2.2.2.1, ()) h35)) fun j36 =>
pWant s31.1 true (
pIdxS s31.2.2.2.2.2.2.2.2.1 s31.2.2.2.2.2.2.1 1 fun v67 =>
pLoad1 h32 v67 fun v68 =>
pInt .neq v68 (.int .i64 (.negSucc 0)) fun v69 =>
j36 (v69, s31.1, s31.2.1, s31.2.2.1, s31.2.2.2.1, s31.2.2.2.2.1, s31.2.2.2.2.2.1, s31.2.2.2.2.2.2.1, s31.2.2.2.2.2.2.2.1, s31.2.2.2.2.2.2.2.2.1, ()) h32) (
j36 (.undef, s31.1, s31.2.1, s31.2.2.1, s31.2.2.2.1, s31.2.2.2.2.1, s31.2.2.2.2.2.1, s31.2.2.2.2.2.2.1, s31.2.2.2.2.2.2.2.1, s31.2.2.2.2.2.2.2.2.1, ()) h32)) fun j33 =>
pWant v30 false (
pFieldA v17 3 fun v70 =>
pLoad1 h23 v70 fun v71 =>
pFieldA s5.2.2.2.1 0 fun v72 =>
pLoad1 h23 v72 fun v73 =>
pLenS v73 fun v74 =>
pInt .eql v71 v74 fun v75 =>
j33 (v75, v30, s5.1, s5.2.1, s5.2.2.1, v17, s5.1, s5.2.2.2.1, s5.2.2.2.2.1, ()) h23) (
j33 (.undef, v30, s5.1, s5.2.1, s5.2.2.1, v17, s5.1, s5.2.2.2.1, s5.2.2.2.2.1, ()) h23))) (
pLeave d7 h6 fun h76 =>
some ((.tup [(.int .i64 (.ofNat 0)), (.int .i64 (.ofNat 0))]), h76))) ((.int .i64 (.ofNat 0)), v4, v3, v0, a1, ()) h1 []
theorem S80_eq (c : CV) (a0 a1 : AV) (h : AH) : enterK Tryz.prog NN P80 c 80 [a0, a1] h = S80 c a0 a1 h := by kernel_rfl
def W80 (c : CV) (l : List AV) (h : AH) : R := match l with | [a0, a1] => S80 c a0 a1 h | _ => none
theorem W80_ok : WOk Tryz.prog 80 W80 := by
  intro c l h r e
  unfold W80 at e
  split at e
  · exact ⟨P80, by rw [S80_eq]; exact e⟩
  · cases e
/- quietus/check.regions -/
def P81 : Pl := (.n none .z (.n none .z (.n none .z (.n none (.n none .z (.n none (.n (some [14, 13, 12, 4, 3]) .z .z) .z)) .z))))
def S81 (c : CV) (a0 : AV) (h : AH) : R :=
pBox h 33 a0 fun v0 h1 =>
pFieldA v0 0 fun v2 =>
pLoad1 h1 v2 fun v3 =>
pLenS v3 fun v4 =>
pMake h1 3 [(.int .i64 (.ofNat 0))] v4 v4 fun v5 h6 =>
pFieldA v0 0 fun v7 =>
pLoad1 h6 v7 fun v8 =>
pLenS v8 fun v9 =>
loopC (σ := AV × AV × AV × AV × AV × Unit) NN (fun i13 s10 h11 d12 =>
pInt .lss s10.1 s10.2.1 fun v14 =>
pCond v14 (
pIdxS s10.2.2.1 s10.1 5 fun v15 =>
pLoadN h11 v15 5 fun v16 =>
pBox h11 30 (.agg [(.int .i64 (.ofNat 0)), (.int .i64 (.ofNat 0)), (.int .i64 (.ofNat 0)), (.int .i64 (.ofNat 0)), (.int .u64 (.ofNat 0))]) fun v17 h18 =>
pStore h18 v17 v16 5 fun h19 =>
pCall c (.fn 79 [] []) [s10.2.2.2.1] h19 fun v20 h21 =>
pIdxS s10.2.2.2.2.1 s10.1 1 fun v22 =>
pStore h21 v22 v20 1 fun h23 =>
pFieldA v17 0 fun v24 =>
pLoad1 h23 v24 fun v25 =>
pCall c (.fn 78 [] []) [s10.2.2.2.1, s10.1, v25] h23 fun v26 h27 =>
pInt .add s10.1 (.int .i64 (.ofNat 1)) fun v28 =>
i13 (v28, s10.2.1, s10.2.2.1, v26, s10.2.2.2.2.1, ()) h27 d12) (
pLeave d12 h11 fun h29 =>
some (s10.2.2.2.2.1, h29))) ((.int .i64 (.ofNat 0)), v9, v8, .nils, v5, ()) h6 []
theorem S81_eq (c : CV) (a0 : AV) (h : AH) : enterK Tryz.prog NN P81 c 81 [a0] h = S81 c a0 h := by kernel_rfl
def W81 (c : CV) (l : List AV) (h : AH) : R := match l with | [a0] => S81 c a0 h | _ => none
theorem W81_ok : WOk Tryz.prog 81 W81 := by
  intro c l h r e
  unfold W81 at e
  split at e
  · exact ⟨P81, by rw [S81_eq]; exact e⟩
  · cases e
/- quietus/check.ends -/
def P82 : Pl := .z
def S82 (_ : CV) (a0 : AV) (h : AH) : R :=
pInt .eql a0 (.int .i64 (.ofNat 15)) fun v0 =>
pCond v0 (
some ((.int .i64 (.ofNat 14)), h)) (
pInt .eql a0 (.int .i64 (.ofNat 18)) fun v1 =>
pCond v1 (
some ((.int .i64 (.ofNat 17)), h)) (
pInt .eql a0 (.int .i64 (.ofNat 19)) fun v2 =>
pCond v2 (
some ((.int .i64 (.ofNat 18)), h)) (
some ((.int .i64 (.ofNat 0)), h))))
theorem S82_eq (c : CV) (a0 : AV) (h : AH) : enterK Tryz.prog NN P82 c 82 [a0] h = S82 c a0 h := by kernel_rfl
def W82 (c : CV) (l : List AV) (h : AH) : R := match l with | [a0] => S82 c a0 h | _ => none
theorem W82_ok : WOk Tryz.prog 82 W82 := by
  intro c l h r e
  unfold W82 at e
  split at e
  · exact ⟨P82, by rw [S82_eq]; exact e⟩
  · cases e
/- quietus/interp.truth -/
def P83 : Pl := .z
def S83 (_ : CV) (a0 : AV) (h : AH) : R :=
pCond a0 (
some ((.int .u64 (.ofNat 1)), h)) (
some ((.int .u64 (.ofNat 0)), h))
theorem S83_eq (c : CV) (a0 : AV) (h : AH) : enterK Tryz.prog NN P83 c 83 [a0] h = S83 c a0 h := by kernel_rfl
def W83 (c : CV) (l : List AV) (h : AH) : R := match l with | [a0] => S83 c a0 h | _ => none
theorem W83_ok : WOk Tryz.prog 83 W83 := by
  intro c l h r e
  unfold W83 at e
  split at e
  · exact ⟨P83, by rw [S83_eq]; exact e⟩
  · cases e
/- (*quietus/slate.Slate).AddNum -/
def P84 : Pl := .z
def S84 (c : CV) (a0 a1 : AV) (h : AH) : R :=
pCall c (.fn 105 [] []) [a0, (.iface 24 a1)] h fun v0 h1 =>
some (v0, h1)
theorem S84_eq (c : CV) (a0 a1 : AV) (h : AH) : enterK Tryz.prog NN P84 c 84 [a0, a1] h = S84 c a0 a1 h := by kernel_rfl
def W84 (c : CV) (l : List AV) (h : AH) : R := match l with | [a0, a1] => S84 c a0 a1 h | _ => none
theorem W84_ok : WOk Tryz.prog 84 W84 := by
  intro c l h r e
  unfold W84 at e
  split at e
  · exact ⟨P84, by rw [S84_eq]; exact e⟩
  · cases e
/- (*quietus/interp.Interp).call -/
def P85 : Pl := (.n none .z (.n none .z (.n none (.n none .z (.n none (.n none .z (.n none (.n none (.r [[4]]) .z) (.n none .z (.n none (.n none (.r [[4]]) .z) (.n none .z (.n none (.n none (.r [[4]]) .z) (.n none .z (.n none (.n none (.r [[4]]) .z) (.n none .z (.n none (.n none (.r [[4]]) .z) (.n none .z (.n none (.n none (.r [[4]]) .z) (.n none .z (.n none .z (.n none .z (.n none .z (.n none .z (.n none (.n none (.r [[4]]) .z) (.n none .z (.n none (.n none (.r [[4]]) .z) (.n none .z (.n none (.n none (.r [[4]]) .z) .z)))))))))))))))))))))) .z)) .z)))
def S85 (c : CV) (a0 a1 : AV) (h : AH) : R :=
pBox h 30 a1 fun v0 h1 =>
pFieldA v0 2 fun v2 =>
pLoad1 h1 v2 fun v3 =>
pInt .add (.int .i64 (.ofNat 6)) v3 fun v4 =>
pFieldA v0 3 fun v5 =>
pLoad1 h1 v5 fun v6 =>
pNil a0 fun v7 =>
pFieldA v7 6 fun v8 =>
pIdxP v8 v6 8 1 fun v9 =>
pLoad1 h1 v9 fun v10 =>
pFieldA v0 3 fun v11 =>
pLoad1 h1 v11 fun v12 =>
pInt .add v12 (.int .i64 (.ofNat 1)) fun v13 =>
pNil a0 fun v14 =>
pFieldA v14 6 fun v15 =>
pIdxP v15 v13 8 1 fun v16 =>
pLoad1 h1 v16 fun v17 =>
pFieldA v0 1 fun v18 =>
pLoad1 h1 v18 fun v19 =>
pInt .eql v19 (.int .i64 (.ofNat 1)) fun v20 =>
pCond v20 (
joinC (α := AV × Unit → AH → R) (fun s21 h22 =>
some (s21.1, h22)) fun j23 =>
pLoadN h1 v0 5 fun v24 =>
pCall c (.fn 106 [] []) [a0, v24] h1 fun v25 h26 =>
pNil a0 fun v27 =>
pFieldA v27 1 fun v28 =>
pLoad1 h26 v28 fun v29 =>
pCall c (.fn 107 [] []) [v29, v4, v10] h26 fun v30 h31 =>
pExtract v30 0 fun v32 =>
pExtract v30 1 fun v33 =>
pCall c v25 [v32, v33] h31 fun v34 h35 =>
pChk v28 none v29 h1 h26 h1.nx <|
j23 (v34, ()) h35) (
pInt .eql v19 (.int .i64 (.ofNat 2)) fun v36 =>
pCond v36 (
joinC (α := AV × Unit → AH → R) (fun s37 h38 =>
some (s37.1, h38)) fun j39 =>
pLoadN h1 v0 5 fun v40 =>
pCall c (.fn 106 [] []) [a0, v40] h1 fun v41 h42 =>
pNil a0 fun v43 =>
pFieldA v43 1 fun v44 =>
pLoad1 h42 v44 fun v45 =>
pCall c (.fn 108 [] []) [v45, v4, v10] h42 fun v46 h47 =>
pExtract v46 0 fun v48 =>
pExtract v46 1 fun v49 =>
pCall c v41 [v48, v49] h47 fun v50 h51 =>
pChk v44 none v45 h1 h42 h1.nx <|
j39 (v50, ()) h51) (
pInt .eql v19 (.int .i64 (.ofNat 3)) fun v52 =>
pCond v52 (
joinC (α := AV × Unit → AH → R) (fun s53 h54 =>
some (s53.1, h54)) fun j55 =>
pLoadN h1 v0 5 fun v56 =>
pCall c (.fn 106 [] []) [a0, v56] h1 fun v57 h58 =>
pNil a0 fun v59 =>
pFieldA v59 1 fun v60 =>
pLoad1 h58 v60 fun v61 =>
pCall c (.fn 109 [] []) [v61, v4, v10] h58 fun v62 h63 =>
pExtract v62 0 fun v64 =>
pExtract v62 1 fun v65 =>
pCall c v57 [v64, v65] h63 fun v66 h67 =>
pChk v60 none v61 h1 h58 h1.nx <|
j55 (v66, ()) h67) (
pInt .eql v19 (.int .i64 (.ofNat 4)) fun v68 =>
pCond v68 (
joinC (α := AV × Unit → AH → R) (fun s69 h70 =>
some (s69.1, h70)) fun j71 =>
pLoadN h1 v0 5 fun v72 =>
pCall c (.fn 106 [] []) [a0, v72] h1 fun v73 h74 =>
pNil a0 fun v75 =>
pFieldA v75 1 fun v76 =>
pLoad1 h74 v76 fun v77 =>
pCall c (.fn 110 [] []) [v77, v4, v10, v17] h74 fun v78 h79 =>
pExtract v78 0 fun v80 =>
pExtract v78 1 fun v81 =>
pCall c v73 [v80, v81] h79 fun v82 h83 =>
pChk v76 none v77 h1 h74 h1.nx <|
j71 (v82, ()) h83) (
pInt .eql v19 (.int .i64 (.ofNat 5)) fun v84 =>
pCond v84 (
joinC (α := AV × Unit → AH → R) (fun s85 h86 =>
some (s85.1, h86)) fun j87 =>
pLoadN h1 v0 5 fun v88 =>
pCall c (.fn 111 [] []) [a0, v88] h1 fun v89 h90 =>
pNil a0 fun v91 =>
pFieldA v91 1 fun v92 =>
pLoad1 h90 v92 fun v93 =>
pCall c (.fn 112 [] []) [v93, v4, v10] h90 fun v94 h95 =>
pExtract v94 0 fun v96 =>
pExtract v94 1 fun v97 =>
pExtract v94 2 fun v98 =>
pCall c v89 [v96, v97, v98] h95 fun v99 h100 =>
pChk v92 none v93 h1 h90 h1.nx <|
j87 (v99, ()) h100) (
pInt .eql v19 (.int .i64 (.ofNat 6)) fun v101 =>
pCond v101 (
joinC (α := AV × Unit → AH → R) (fun s102 h103 =>
some (s102.1, h103)) fun j104 =>
pLoadN h1 v0 5 fun v105 =>
pCall c (.fn 106 [] []) [a0, v105] h1 fun v106 h107 =>
pNil a0 fun v108 =>
pFieldA v108 1 fun v109 =>
pLoad1 h107 v109 fun v110 =>
pCall c (.fn 113 [] []) [v110, v4, v10] h107 fun v111 h112 =>
pExtract v111 0 fun v113 =>
pExtract v111 1 fun v114 =>
pCall c v106 [v113, v114] h112 fun v115 h116 =>
pChk v109 none v110 h1 h107 h1.nx <|
j104 (v115, ()) h116) (
pInt .eql v19 (.int .i64 (.ofNat 7)) fun v117 =>
pCond v117 (
pCall c (.fn 114 [] []) [a0, v4, v10] h1 fun v118 h119 =>
some (v118, h119)) (
pInt .eql v19 (.int .i64 (.ofNat 8)) fun v120 =>
pCond v120 (
pLoadN h1 v0 5 fun v121 =>
pCall c (.fn 115 [] []) [a0, v121, v4] h1 fun v122 h123 =>
some (v122, h123)) (
pInt .eql v19 (.int .i64 (.ofNat 9)) fun v124 =>
pCond v124 (
joinC (α := AV × Unit → AH → R) (fun s125 h126 =>
some (s125.1, h126)) fun j127 =>
pLoadN h1 v0 5 fun v128 =>
pCall c (.fn 106 [] []) [a0, v128] h1 fun v129 h130 =>
pNil a0 fun v131 =>
pFieldA v131 1 fun v132 =>
pLoad1 h130 v132 fun v133 =>
pCall c (.fn 116 [] []) [v133, v4, v10, v17] h130 fun v134 h135 =>
pExtract v134 0 fun v136 =>
pExtract v134 1 fun v137 =>
pCall c v129 [v136, v137] h135 fun v138 h139 =>
pChk v132 none v133 h1 h130 h1.nx <|
j127 (v138, ()) h139) (
pInt .eql v19 (.int .i64 (.ofNat 10)) fun v140 =>
pCond v140 (
joinC (α := AV × Unit → AH → R) (fun s141 h142 =>
some (s141.1, h142)) fun j143 =>
pLoadN h1 v0 5 fun v144 =>
pCall c (.fn 111 [] []) [a0, v144] h1 fun v145 h146 =>
pNil a0 fun v147 =>
pFieldA v147 1 fun v148 =>
pLoad1 h146 v148 fun v149 =>
pCall c (.fn 117 [] []) [v149, v4, v10] h146 fun v150 h151 =>
pExtract v150 0 fun v152 =>
pExtract v150 1 fun v153 =>
pExtract v150 2 fun v154 =>
pCall c v145 [v152, v153, v154] h151 fun v155 h156 =>
pChk v148 none v149 h1 h146 h1.nx <|
j143 (v155, ()) h156) (
pInt .eql v19 (.int .i64 (.ofNat 11)) fun v157 =>
pCond v157 (
joinC (α := AV × Unit → AH → R) (fun s158 h159 =>
some (s158.1, h159)) fun j160 =>
pLoadN h1 v0 5 fun v161 =>
pCall c (.fn 106 [] []) [a0, v161] h1 fun v162 h163 =>
pNil a0 fun v164 =>
pFieldA v164 1 fun v165 =>
pLoad1 h163 v165 fun v166 =>
pCall c (.fn 118 [] []) [v166, v4, v10] h163 fun v167 h168 =>
pExtract v167 0 fun v169 =>
pExtract v167 1 fun v170 =>
pCall c v162 [v169, v170] h168 fun v171 h172 =>
pChk v165 none v166 h1 h163 h1.nx <|
j160 (v171, ()) h172) (
pNil a0 fun v173 =>
pFieldA v173 1 fun v174 =>
pLoad1 h1 v174 fun v175 =>
pCall c (.fn 119 [] []) [v175, v4, v10, v17] h1 fun v176 h177 =>
pExtract v176 0 fun v178 =>
pExtract v176 1 fun v179 =>
pLoadN h177 v0 5 fun v180 =>
pCall c (.fn 111 [] []) [a0, v180] h177 fun v181 h182 =>
pLenS v178 fun v183 =>
pConvI .u64 v183 fun v184 =>
pCall c v181 [v184, (.bool true), v179] h182 fun v185 h186 =>
some (v185, h186))))))))))))
theorem S85_eq (c : CV) (a0 a1 : AV) (h : AH) : enterK Tryz.prog NN P85 c 85 [a0, a1] h = S85 c a0 a1 h := by kernel_rfl
def W85 (c : CV) (l : List AV) (h : AH) : R := match l with | [a0, a1] => S85 c a0 a1 h | _ => none
theorem W85_ok : WOk Tryz.prog 85 W85 := by
  intro c l h r e
  unfold W85 at e
  split at e
  · exact ⟨P85, by rw [S85_eq]; exact e⟩
  · cases e
/- (*quietus/interp.Interp).touch -/
def P86 : Pl := (.n none .z (.n none (.n none .z (.n none (.n none .z (.n none (.n none .z (.n none .z (.n none .z (.n (some [10]) .z .z)))) (.n none .z (.n none .z (.n none .z (.n none (.n none .z (.n none .z (.n (some [15]) .z .z))) .z)))))) .z)) .z))
def S86 (c : CV) (a0 a1 a2 a3 : AV) (h : AH) : R :=
pBox h 30 a1 fun v0 h1 =>
pFieldA v0 0 fun v2 =>
pLoad1 h1 v2 fun v3 =>
pInt .eql v3 (.int .i64 (.ofNat 8)) fun v4 =>
pCond v4 (
pFieldA v0 3 fun v5 =>
pLoad1 h1 v5 fun v6 =>
pCall c (.fn 120 [] []) [a3, v6] h1 fun v7 h8 =>
pExtract v7 0 fun v9 =>
pExtract v7 1 fun v10 =>
pInt .neq v10 (.int .i64 (.ofNat 0)) fun v11 =>
pCond v11 (
some (v10, h8)) (
pNil a0 fun v12 =>
pFieldA v12 1 fun v13 =>
pLoad1 h8 v13 fun v14 =>
pCall c (.fn 56 [] []) [v14, v9] h8 fun v15 h16 =>
pExtract v15 0 fun v17 =>
pExtract v15 1 fun v18 =>
joinC (α := AV × Unit → AH → List Nat → R) (fun s19 h20 d21 =>
pLeave d21 h20 fun h23 =>
some (s19.1, h23)) fun j22 =>
pInt .eql v18 (.int .i64 (.ofNat 0)) fun v24 =>
pCond v24 (
pNil a2 fun v25 =>
pStore h16 v25 v17 1 fun h26 =>
j22 (v18, ()) h26 []) (
j22 (v18, ()) h16 []))) (
pInt .eql v3 (.int .i64 (.ofNat 9)) fun v27 =>
pCond v27 (
pNil a2 fun v28 =>
pLoad1 h1 v28 fun v29 =>
pFieldA v0 3 fun v30 =>
pLoad1 h1 v30 fun v31 =>
pCall c (.fn 120 [] []) [v29, v31] h1 fun v32 h33 =>
pExtract v32 0 fun v34 =>
pExtract v32 1 fun v35 =>
pInt .neq v35 (.int .i64 (.ofNat 0)) fun v36 =>
pCond v36 (
some (v35, h33)) (
pNil a0 fun v37 =>
pFieldA v37 1 fun v38 =>
pLoad1 h33 v38 fun v39 =>
pCall c (.fn 121 [] []) [v39, v34, a3] h33 fun v40 h41 =>
some (v40, h41))) (
pInt .eql v3 (.int .i64 (.ofNat 10)) fun v42 =>
pCond v42 (
pInt .geq a3 (.int .u64 (.ofNat 2147483648)) fun v43 =>
pCond v43 (
some ((.int .i64 (.ofNat 3)), h1)) (
pNil a0 fun v44 =>
pFieldA v44 1 fun v45 =>
pLoad1 h1 v45 fun v46 =>
pConvI .i64 a3 fun v47 =>
pCall c (.fn 122 [] []) [v46, v47] h1 fun v48 h49 =>
pExtract v48 0 fun v50 =>
pExtract v48 1 fun v51 =>
joinC (α := AV × Unit → AH → List Nat → R) (fun s52 h53 d54 =>
pLeave d54 h53 fun h56 =>
some (s52.1, h56)) fun j55 =>
pInt .eql v51 (.int .i64 (.ofNat 0)) fun v57 =>
pCond v57 (
pConvI .u64 v50 fun v58 =>
pNil a2 fun v59 =>
pStore h49 v59 v58 1 fun h60 =>
j55 (v51, ()) h60 []) (
j55 (v51, ()) h49 []))) (
pNil a2 fun v61 =>
pLoad1 h1 v61 fun v62 =>
pInt .geq v62 (.int .u64 (.ofNat 2147483648)) fun v63 =>
pCond v63 (
some ((.int .i64 (.ofNat 2)), h1)) (
pNil a0 fun v64 =>
pFieldA v64 1 fun v65 =>
pLoad1 h1 v65 fun v66 =>
pNil a2 fun v67 =>
pLoad1 h1 v67 fun v68 =>
pConvI .i64 v68 fun v69 =>
pCall c (.fn 123 [] []) [v66, v69] h1 fun v70 h71 =>
some (v70, h71)))))
theorem S86_eq (c : CV) (a0 a1 a2 a3 : AV) (h : AH) : enterK Tryz.prog NN P86 c 86 [a0, a1, a2, a3] h = S86 c a0 a1 a2 a3 h := by kernel_rfl
def W86 (c : CV) (l : List AV) (h : AH) : R := match l with | [a0, a1, a2, a3] => S86 c a0 a1 a2 a3 h | _ => none
theorem W86_ok : WOk Tryz.prog 86 W86 := by
  intro c l h r e
  unfold W86 at e
  split at e
  · exact ⟨P86, by rw [S86_eq]; exact e⟩
  · cases e
/- (*quietus/interp.Interp).turn -/
def P87 : Pl := (.n none .z (.n none (.n none .z (.n none (.n (some [7, 6, 3, 0]) .z (.n none .z (.n (some [18, 6, 0]) .z .z))) .z)) .z))
def S87 (c : CV) (a0 a1 : AV) (h : AH) : R :=
pBox h 30 a1 fun v0 h1 =>
pFieldA v0 0 fun v2 =>
pLoad1 h1 v2 fun v3 =>
joinC (α := AV × AV × AV × AV × Unit → AH → List Nat → R) (fun s4 h5 d6 =>
pCond s4.1 (
pFieldA s4.2.2.1 0 fun v8 =>
pLoad1 h5 v8 fun v9 =>
pNil s4.2.2.2.1 fun v10 =>
pFieldA v10 15 fun v11 =>
pLoad1 h5 v11 fun v12 =>
pCall c (.fn 124 [] []) [s4.2.2.2.1, v9, v12] h5 fun v13 h14 =>
pLeave d6 h14 fun h15 =>
some (v13, h15)) (
joinC (α := AV × AV × AV × Unit → AH → List Nat → R) (fun s16 h17 d18 =>
pCond s16.1 (
pCall c (.fn 125 [] []) [s16.2.2.1] h17 fun _ h21 =>
pNil s16.2.2.1 fun v22 =>
pFieldA v22 1 fun v23 =>
pLoad1 h21 v23 fun v24 =>
pCall c (.fn 126 [] []) [v24] h21 fun v25 h26 =>
pLeave d18 h26 fun h27 =>
some (v25, h27)) (
pInt .eql s16.2.1 (.int .i64 (.ofNat 18)) fun v28 =>
pCond v28 (
pCall c (.fn 125 [] []) [s16.2.2.1] h17 fun _ h30 =>
pNil s16.2.2.1 fun v31 =>
pFieldA v31 2 fun v32 =>
pLoad1 h30 v32 fun v33 =>
pNil s16.2.2.1 fun v34 =>
pFieldA v34 15 fun v35 =>
pLoad1 h30 v35 fun v36 =>
pIdxS v33 v36 1 fun v37 =>
pLoad1 h30 v37 fun v38 =>
pInt .add v38 (.int .i64 (.ofNat 1)) fun v39 =>
pNil s16.2.2.1 fun v40 =>
pFieldA v40 16 fun v41 =>
pStore h30 v41 v39 1 fun h42 =>
pNil s16.2.2.1 fun v43 =>
pFieldA v43 1 fun v44 =>
pLoad1 h42 v44 fun v45 =>
pCall c (.fn 126 [] []) [v45] h42 fun v46 h47 =>
pLeave d18 h47 fun h48 =>
some (v46, h48)) (
pInt .eql s16.2.1 (.int .i64 (.ofNat 16)) fun v49 =>
pCond v49 (
pCall c (.fn 125 [] []) [s16.2.2.1] h17 fun v50 h51 =>
pCall c (.fn 127 [] []) [s16.2.2.1, v50] h51 fun _ h53 =>
pNil s16.2.2.1 fun v54 =>
pFieldA v54 2 fun v55 =>
pLoad1 h53 v55 fun v56 =>
pNil s16.2.2.1 fun v57 =>
pFieldA v57 15 fun v58 =>
pLoad1 h53 v58 fun v59 =>
pIdxS v56 v59 1 fun v60 =>
pLoad1 h53 v60 fun v61 =>
pInt .add v61 (.int .i64 (.ofNat 1)) fun v62 =>
pNil s16.2.2.1 fun v63 =>
pFieldA v63 16 fun v64 =>
pStore h53 v64 v62 1 fun h65 =>
pNil s16.2.2.1 fun v66 =>
pFieldA v66 1 fun v67 =>
pLoad1 h65 v67 fun v68 =>
pCall c (.fn 128 [] []) [v68] h65 fun v69 h70 =>
pLeave d18 h70 fun h71 =>
some (v69, h71)) (
pCall c (.fn 129 [] []) [s16.2.2.1] h17 fun v72 h73 =>
pLeave d18 h73 fun h74 =>
some (v72, h74))))) fun j19 =>
pInt .eql s4.2.1 (.int .i64 (.ofNat 15)) fun v75 =>
pCond v75 (
j19 (v75, s4.2.1, s4.2.2.2.1, ()) h5 d6) (
pInt .eql s4.2.1 (.int .i64 (.ofNat 19)) fun v76 =>
j19 (v76, s4.2.1, s4.2.2.2.1, ()) h5 d6))) fun j7 =>
pInt .eql v3 (.int .i64 (.ofNat 14)) fun v77 =>
pCond v77 (
j7 (v77, v3, v0, a0, ()) h1 []) (
pInt .eql v3 (.int .i64 (.ofNat 17)) fun v78 =>
j7 (v78, v3, v0, a0, ()) h1 [])
theorem S87_eq (c : CV) (a0 a1 : AV) (h : AH) : enterK Tryz.prog NN P87 c 87 [a0, a1] h = S87 c a0 a1 h := by kernel_rfl
def W87 (c : CV) (l : List AV) (h : AH) : R := match l with | [a0, a1] => S87 c a0 a1 h | _ => none
theorem W87_ok : WOk Tryz.prog 87 W87 := by
  intro c l h r e
  unfold W87 at e
  split at e
  · exact ⟨P87, by rw [S87_eq]; exact e⟩
  · cases e
/- slices.Clone[[]any,any] -/
def P88 : Pl := .z
def S88 (_ : CV) (a0 : AV) (h : AH) : R :=
pEq .slc false a0 .nils fun v0 =>
pCond v0 (
some (.nils, h)) (
pBuildS h 20 [.nili] 0 [] fun v1 h2 =>
pAppend h2 20 1 v1 a0 fun v3 h4 =>
some (v3, h4))
theorem S88_eq (c : CV) (a0 : AV) (h : AH) : enterK Tryz.prog NN P88 c 88 [a0] h = S88 c a0 h := by kernel_rfl
def W88 (c : CV) (l : List AV) (h : AH) : R := match l with | [a0] => S88 c a0 h | _ => none
theorem W88_ok : WOk Tryz.prog 88 W88 := by
  intro c l h r e
  unfold W88 at e
  split at e
  · exact ⟨P88, by rw [S88_eq]; exact e⟩
  · cases e
/- strconv.FormatUint -/
def P89 : Pl := .z
def S89 (c : CV) (a0 a1 : AV) (h : AH) : R :=
pCall c (.fn 130 [] []) [a0, a1] h fun v0 h1 =>
some (v0, h1)
theorem S89_eq (c : CV) (a0 a1 : AV) (h : AH) : enterK Tryz.prog NN P89 c 89 [a0, a1] h = S89 c a0 a1 h := by kernel_rfl
def W89 (c : CV) (l : List AV) (h : AH) : R := match l with | [a0, a1] => S89 c a0 a1 h | _ => none
theorem W89_ok : WOk Tryz.prog 89 W89 := by
  intro c l h r e
  unfold W89 at e
  split at e
  · exact ⟨P89, by rw [S89_eq]; exact e⟩
  · cases e
/- (*strings.Builder).Grow -/
def P90 : Pl := (.n none .z (.n (some [1, 0]) .z (.n none (.r [[21, 1, 0]]) .z)))
def S90 (c : CV) (a0 a1 : AV) (h : AH) : R :=
pCall c (.fn 131 [] []) [a0] h fun _ h1 =>
joinC (α := AV × AV × Unit → AH → List Nat → R) (fun s2 h3 d4 =>
joinC (α := AV × AV × AV × Unit → AH → R) (fun s6 h7 =>
pCond s6.1 (
pCall c (.fn 132 [] []) [s6.2.2.1, s6.2.1] h7 fun _ h10 =>
pLeave d4 h10 fun h11 =>
some ((.tup []), h11)) (
pLeave d4 h7 fun h12 =>
some ((.tup []), h12))) fun _ =>
pNil s2.2.1 fun v13 =>
pFieldA v13 1 fun v14 =>
pLoad1 h3 v14 fun _ =>
none /- op -/) fun j5 =>
pInt .lss a1 (.int .i64 (.ofNat 0)) fun v16 =>
pCond v16 (
none /- op -/) (
j5 (a1, a0, ()) h1 [])
theorem S90_eq (c : CV) (a0 a1 : AV) (h : AH) : enterK Tryz.prog NN P90 c 90 [a0, a1] h = S90 c a0 a1 h := by kernel_rfl
def W90 (c : CV) (l : List AV) (h : AH) : R := match l with | [a0, a1] => S90 c a0 a1 h | _ => none
theorem W90_ok : WOk Tryz.prog 90 W90 := by
  intro c l h r e
  unfold W90 at e
  split at e
  · exact ⟨P90, by rw [S90_eq]; exact e⟩
  · cases e
/- (*strings.Builder).WriteString -/
def P91 : Pl := .z
def S91 (c : CV) (a0 a1 : AV) (h : AH) : R :=
pCall c (.fn 131 [] []) [a0] h fun _ h1 =>
pNil a0 fun v2 =>
pFieldA v2 1 fun v3 =>
pLoad1 h1 v3 fun v4 =>
pAppend h1 5 1 v4 a1 fun v5 h6 =>
pNil a0 fun v7 =>
pFieldA v7 1 fun v8 =>
pStore h6 v8 v5 1 fun h9 =>
pLenStr a1 fun v10 =>
some ((.tup [v10, .nili]), h9)
theorem S91_eq (c : CV) (a0 a1 : AV) (h : AH) : enterK Tryz.prog NN P91 c 91 [a0, a1] h = S91 c a0 a1 h := by kernel_rfl
def W91 (c : CV) (l : List AV) (h : AH) : R := match l with | [a0, a1] => S91 c a0 a1 h | _ => none
theorem W91_ok : WOk Tryz.prog 91 W91 := by
  intro c l h r e
  unfold W91 at e
  split at e
  · exact ⟨P91, by rw [S91_eq]; exact e⟩
  · cases e
/- (*strings.Builder).String -/
def P92 : Pl := (.n none .z (.n none (.r [[2]]) .z))
def S92 (_ : CV) (a0 : AV) (h : AH) : R :=
joinC (α := AV × Unit → AH → R) (fun s0 h1 =>
some (s0.1, h1)) fun _ =>
pNil a0 fun v3 =>
pFieldA v3 1 fun v4 =>
pLoad1 h v4 fun _ =>
none /- op -/
theorem S92_eq (c : CV) (a0 : AV) (h : AH) : enterK Tryz.prog NN P92 c 92 [a0] h = S92 c a0 h := by kernel_rfl
def W92 (c : CV) (l : List AV) (h : AH) : R := match l with | [a0] => S92 c a0 h | _ => none
theorem W92_ok : WOk Tryz.prog 92 W92 := by
  intro c l h r e
  unfold W92 at e
  split at e
  · exact ⟨P92, by rw [S92_eq]; exact e⟩
  · cases e
/- slices.swapRangeCmpFunc[int] -/
def P93 : Pl := (.n none .z (.n none (.n (some [10, 3, 2, 1, 0]) .z .z) .z))
def S93 (_ : CV) (a0 a1 a2 a3 _ : AV) (h : AH) : R :=
loopC (σ := AV × AV × AV × AV × AV × Unit) NN (fun i3 s0 h1 d2 =>
pInt .lss s0.1 s0.2.1 fun v4 =>
pCond v4 (
pInt .add s0.2.2.2.1 s0.1 fun v5 =>
pInt .add s0.2.2.1 s0.1 fun v6 =>
pInt .add s0.2.2.1 s0.1 fun v7 =>
pIdxS s0.2.2.2.2.1 v7 1 fun v8 =>
pLoad1 h1 v8 fun v9 =>
pInt .add s0.2.2.2.1 s0.1 fun v10 =>
pIdxS s0.2.2.2.2.1 v10 1 fun v11 =>
pLoad1 h1 v11 fun v12 =>
pIdxS s0.2.2.2.2.1 v5 1 fun v13 =>
pStore h1 v13 v9 1 fun h14 =>
pIdxS s0.2.2.2.2.1 v6 1 fun v15 =>
pStore h14 v15 v12 1 fun h16 =>
pInt .add s0.1 (.int .i64 (.ofNat 1)) fun v17 =>
i3 (v17, s0.2.1, s0.2.2.1, s0.2.2.2.1, s0.2.2.2.2.1, ()) h16 d2) (
pLeave d2 h1 fun h18 =>
some ((.tup []), h18))) ((.int .i64 (.ofNat 0)), a3, a2, a1, a0, ()) h []
theorem S93_eq (c : CV) (a0 a1 a2 a3 a4 : AV) (h : AH) : enterK Tryz.prog NN P93 c 93 [a0, a1, a2, a3, a4] h = S93 c a0 a1 a2 a3 a4 h := by kernel_rfl
def W93 (c : CV) (l : List AV) (h : AH) : R := match l with | [a0, a1, a2, a3, a4] => S93 c a0 a1 a2 a3 a4 h | _ => none
theorem W93_ok : WOk Tryz.prog 93 W93 := by
  intro c l h r e
  unfold W93 at e
  split at e
  · exact ⟨P93, by rw [S93_eq]; exact e⟩
  · cases e
/- quietus/levels.fresh -/
def P94 : Pl := .z
def S94 (c : CV) (h : AH) : R :=
pCall c (.fn 74 [] []) [(.int .i64 (.ofNat 96))] h fun v0 h1 =>
pBuild [.nilp, .nils] [(0, 1, v0)] fun v2 =>
pBox h1 156 v2 fun v3 h4 =>
some (v3, h4)
theorem S94_eq (c : CV) (h : AH) : enterK Tryz.prog NN P94 c 94 [] h = S94 c h := by kernel_rfl
def W94 (c : CV) (l : List AV) (h : AH) : R := match l with | [] => S94 c h | _ => none
theorem W94_ok : WOk Tryz.prog 94 W94 := by
  intro c l h r e
  unfold W94 at e
  split at e
  · exact ⟨P94, by rw [S94_eq]; exact e⟩
  · cases e
/- (*quietus/writes.Writes).Get -/
def P95 : Pl := .z
def S95 (c : CV) (a0 a1 : AV) (h : AH) : R :=
pCall c (.fn 133 [] []) [a0, a1] h fun v0 h1 =>
pInt .geq v0 (.int .i64 (.ofNat 0)) fun v2 =>
pCond v2 (
pNil a0 fun v3 =>
pFieldA v3 1 fun v4 =>
pLoad1 h1 v4 fun v5 =>
pIdxS v5 v0 2 fun v6 =>
pFieldA v6 1 fun v7 =>
pLoad1 h1 v7 fun v8 =>
some ((.tup [v8, (.bool true)]), h1)) (
some ((.tup [(.int .u64 (.ofNat 0)), (.bool false)]), h1))
theorem S95_eq (c : CV) (a0 a1 : AV) (h : AH) : enterK Tryz.prog NN P95 c 95 [a0, a1] h = S95 c a0 a1 h := by kernel_rfl
def W95 (c : CV) (l : List AV) (h : AH) : R := match l with | [a0, a1] => S95 c a0 a1 h | _ => none
theorem W95_ok : WOk Tryz.prog 95 W95 := by
  intro c l h r e
  unfold W95 at e
  split at e
  · exact ⟨P95, by rw [S95_eq]; exact e⟩
  · cases e
/- (*quietus/levels.Levels).in -/
def P96 : Pl := .z
def S96 (_ : CV) (a0 : AV) (h : AH) : R :=
pNil a0 fun v0 =>
pFieldA v0 1 fun v1 =>
pLoad1 h v1 fun v2 =>
pNil a0 fun v3 =>
pFieldA v3 1 fun v4 =>
pLoad1 h v4 fun v5 =>
pLenS v5 fun v6 =>
pInt .sub v6 (.int .i64 (.ofNat 1)) fun v7 =>
pIdxS v2 v7 1 fun v8 =>
pLoad1 h v8 fun v9 =>
some (v9, h)
theorem S96_eq (c : CV) (a0 : AV) (h : AH) : enterK Tryz.prog NN P96 c 96 [a0] h = S96 c a0 h := by kernel_rfl
def W96 (c : CV) (l : List AV) (h : AH) : R := match l with | [a0] => S96 c a0 h | _ => none
theorem W96_ok : WOk Tryz.prog 96 W96 := by
  intro c l h r e
  unfold W96 at e
  split at e
  · exact ⟨P96, by rw [S96_eq]; exact e⟩
  · cases e
/- (*quietus/levels.Levels).Put -/
def P97 : Pl := (.n none .z (.n none (.n none (.r [[14, 12, 2, 1, 0]]) .z) (.n none .z (.n none (.n none .z (.n none (.r [[32, 29, 7, 2, 1]]) .z)) .z))))
def S97 (c : CV) (a0 a1 a2 : AV) (h : AH) : R :=
pInt .lss a1 (.int .i64 (.ofNat 1)) fun v0 =>
joinC (α := AV × AV × AV × AV × AV × Unit → AH → R) (fun s1 h2 =>
pPick s1.2.1 (.bool true) s1.1 fun v4 =>
pCond v4 (
some ((.int .i64 (.ofNat 2)), h2)) (
pCall c (.fn 96 [] []) [s1.2.2.2.2.1] h2 fun v5 h6 =>
pNil v5 fun v7 =>
pFieldA v7 0 fun v8 =>
pLoad1 h6 v8 fun v9 =>
pCall c (.fn 95 [] []) [v9, s1.2.2.2.1] h6 fun v10 h11 =>
pExtract v10 0 fun _ =>
pExtract v10 1 fun v13 =>
pUn .not v13 fun v14 =>
joinC (α := AV × AV × AV × AV × AV × Unit → AH → R) (fun s15 h16 =>
pPick s15.2.1 s15.1 (.bool false) fun v18 =>
pCond v18 (
some ((.int .i64 (.ofNat 5)), h16)) (
pCall c (.fn 99 [] []) [s15.2.2.1, s15.2.2.2.2.1, s15.2.2.2.1] h16 fun v19 h20 =>
some (v19, h20))) fun j17 =>
pWant v14 true (
pCall c (.fn 134 [] []) [s1.2.2.2.2.1] h11 fun v21 h22 =>
pInt .eql v21 (.int .i64 (.ofNat 0)) fun v23 =>
j17 (v23, v14, v9, s1.2.2.1, s1.2.2.2.1, ()) h22) (
j17 (.undef, v14, v9, s1.2.2.1, s1.2.2.2.1, ()) h11))) fun j3 =>
pWant v0 false (
pInt .geq a1 (.int .i64 (.ofNat 256)) fun v24 =>
j3 (v24, v0, a2, a1, a0, ()) h) (
j3 (.undef, v0, a2, a1, a0, ()) h)
theorem S97_eq (c : CV) (a0 a1 a2 : AV) (h : AH) : enterK Tryz.prog NN P97 c 97 [a0, a1, a2] h = S97 c a0 a1 a2 h := by kernel_rfl
def W97 (c : CV) (l : List AV) (h : AH) : R := match l with | [a0, a1, a2] => S97 c a0 a1 a2 h | _ => none
theorem W97_ok : WOk Tryz.prog 97 W97 := by
  intro c l h r e
  unfold W97 at e
  split at e
  · exact ⟨P97, by rw [S97_eq]; exact e⟩
  · cases e
/- slices.Backward[[]*quietus/levels.level,*quietus/levels.level]$1 -/
def P98 : Pl := (.n none .z (.n none (.n (some [3, 1, 0]) .z .z) .z))
def S98 (c : CV) (a0 a1 : AV) (h : AH) : R :=
pLoad1 h a1 fun v0 =>
pLenS v0 fun v1 =>
pInt .sub v1 (.int .i64 (.ofNat 1)) fun v2 =>
loopC (σ := AV × AV × AV × Unit) NN (fun i6 s3 h4 d5 =>
pInt .geq s3.1 (.int .i64 (.ofNat 0)) fun v7 =>
pCond v7 (
pLoad1 h4 s3.2.1 fun v8 =>
pIdxS v8 s3.1 1 fun v9 =>
pLoad1 h4 v9 fun v10 =>
pCall c s3.2.2.1 [s3.1, v10] h4 fun v11 h12 =>
pUn .not v11 fun v13 =>
pCond v13 (
pLeave d5 h12 fun h14 =>
some ((.tup []), h14)) (
pInt .sub s3.1 (.int .i64 (.ofNat 1)) fun v15 =>
i6 (v15, s3.2.1, s3.2.2.1, ()) h12 d5)) (
pLeave d5 h4 fun h16 =>
some ((.tup []), h16))) (v2, a1, a0, ()) h []
theorem S98_eq (c : CV) (a0 a1 : AV) (h : AH) : enterK Tryz.prog NN P98 c 98 [a0, a1] h = S98 c a0 a1 h := by kernel_rfl
def W98 (c : CV) (l : List AV) (h : AH) : R := match l with | [a0, a1] => S98 c a0 a1 h | _ => none
theorem W98_ok : WOk Tryz.prog 98 W98 := by
  intro c l h r e
  unfold W98 at e
  split at e
  · exact ⟨P98, by rw [S98_eq]; exact e⟩
  · cases e
/- (*quietus/writes.Writes).Put -/
def P99 : Pl := (.n none .z (.n none (.n none (.r [[12, 10, 2, 1, 0]]) .z) .z))
def S99 (c : CV) (a0 a1 a2 : AV) (h : AH) : R :=
pInt .lss a1 (.int .i64 (.ofNat 1)) fun v0 =>
joinC (α := AV × AV × AV × AV × AV × Unit → AH → R) (fun s1 h2 =>
pPick s1.2.1 (.bool true) s1.1 fun v4 =>
pCond v4 (
some ((.int .i64 (.ofNat 2)), h2)) (
pCall c (.fn 133 [] []) [s1.2.2.2.2.1, s1.2.2.2.1] h2 fun v5 h6 =>
pInt .geq v5 (.int .i64 (.ofNat 0)) fun v7 =>
pCond v7 (
pNil s1.2.2.2.2.1 fun v8 =>
pFieldA v8 1 fun v9 =>
pLoad1 h6 v9 fun v10 =>
pIdxS v10 v5 2 fun v11 =>
pFieldA v11 1 fun v12 =>
pStore h6 v12 s1.2.2.1 1 fun h13 =>
some ((.int .i64 (.ofNat 0)), h13)) (
pNil s1.2.2.2.2.1 fun v14 =>
pFieldA v14 1 fun v15 =>
pLoad1 h6 v15 fun v16 =>
pLenS v16 fun v17 =>
pNil s1.2.2.2.2.1 fun v18 =>
pFieldA v18 0 fun v19 =>
pLoad1 h6 v19 fun v20 =>
pInt .geq v17 v20 fun v21 =>
pCond v21 (
some ((.int .i64 (.ofNat 5)), h6)) (
pNil s1.2.2.2.2.1 fun v22 =>
pFieldA v22 1 fun v23 =>
pLoad1 h6 v23 fun v24 =>
pBuild [(.int .i64 (.ofNat 0)), (.int .u64 (.ofNat 0))] [(0, 1, s1.2.2.2.1), (1, 1, s1.2.2.1)] fun v25 =>
pBuildS h6 35 [(.int .i64 (.ofNat 0)), (.int .u64 (.ofNat 0))] 1 [(0, 2, v25)] fun v26 h27 =>
pAppend h27 35 2 v24 v26 fun v28 h29 =>
pNil s1.2.2.2.2.1 fun v30 =>
pFieldA v30 1 fun v31 =>
pStore h29 v31 v28 1 fun h32 =>
some ((.int .i64 (.ofNat 0)), h32))))) fun j3 =>
pWant v0 false (
pInt .geq a1 (.int .i64 (.ofNat 256)) fun v33 =>
j3 (v33, v0, a2, a1, a0, ()) h) (
j3 (.undef, v0, a2, a1, a0, ()) h)
theorem S99_eq (c : CV) (a0 a1 a2 : AV) (h : AH) : enterK Tryz.prog NN P99 c 99 [a0, a1, a2] h = S99 c a0 a1 a2 h := by kernel_rfl
def W99 (c : CV) (l : List AV) (h : AH) : R := match l with | [a0, a1, a2] => S99 c a0 a1 a2 h | _ => none
theorem W99_ok : WOk Tryz.prog 99 W99 := by
  intro c l h r e
  unfold W99 at e
  split at e
  · exact ⟨P99, by rw [S99_eq]; exact e⟩
  · cases e
/- slices.Clone[[]quietus/api.Cell,quietus/api.Cell] -/
def P100 : Pl := .z
def S100 (_ : CV) (a0 : AV) (h : AH) : R :=
pEq .slc false a0 .nils fun v0 =>
pCond v0 (
some (.nils, h)) (
pBuildS h 35 [(.int .i64 (.ofNat 0)), (.int .u64 (.ofNat 0))] 0 [] fun v1 h2 =>
pAppend h2 35 2 v1 a0 fun v3 h4 =>
some (v3, h4))
theorem S100_eq (c : CV) (a0 : AV) (h : AH) : enterK Tryz.prog NN P100 c 100 [a0] h = S100 c a0 h := by kernel_rfl
def W100 (c : CV) (l : List AV) (h : AH) : R := match l with | [a0] => S100 c a0 h | _ => none
theorem W100_ok : WOk Tryz.prog 100 W100 := by
  intro c l h r e
  unfold W100 at e
  split at e
  · exact ⟨P100, by rw [S100_eq]; exact e⟩
  · cases e
/- quietus/code.May -/
def P101 : Pl := (.n none .z (.n none .z (.n none (.r [[21, 17, 5, 4, 1], [27, 23, 5, 1], [33, 29, 1], [39, 35, 1], [42, 39, 35], [43, 35]]) .z)))
def S101 (c : CV) (a0 : AV) (h : AH) : R :=
pBox h 30 a0 fun v0 h1 =>
pFieldA v0 0 fun v2 =>
pLoad1 h1 v2 fun v3 =>
pCall c (.fn 135 [] []) [v3] h1 fun v4 h5 =>
pExtract v4 0 fun v6 =>
pExtract v4 1 fun v7 =>
pExtract v4 2 fun v8 =>
pBox h5 205 (.agg [(.int .i64 (.ofNat 0)), (.int .i64 (.ofNat 0))]) fun v9 h10 =>
pBox h10 205 (.agg [(.int .i64 (.ofNat 0)), (.int .i64 (.ofNat 0))]) fun v11 h12 =>
pBox h12 205 (.agg [(.int .i64 (.ofNat 0)), (.int .i64 (.ofNat 0))]) fun v13 h14 =>
pStore h14 v9 v6 2 fun h15 =>
pStore h15 v11 v7 2 fun h16 =>
pStore h16 v13 v8 2 fun h17 =>
pFieldA v0 0 fun v18 =>
pLoad1 h17 v18 fun v19 =>
pCall c (.fn 136 [] []) [v19] h17 fun v20 h21 =>
pStr .neq v20 (.str []) fun v22 =>
joinC (α := AV × AV × AV × AV × AV × Unit → AH → R) (fun s23 h24 =>
pPick s23.2.1 s23.1 (.bool false) fun v26 =>
joinC (α := AV × AV × AV × AV × Unit → AH → R) (fun s27 h28 =>
pPick s27.2.1 s27.1 (.bool false) fun v30 =>
joinC (α := AV × AV × AV × Unit → AH → R) (fun s31 h32 =>
pPick s31.2.1 s31.1 (.bool false) fun v34 =>
joinC (α := AV × AV × AV × Unit → AH → R) (fun s35 h36 =>
joinC (α := AV × AV × AV × Unit → AH → R) (fun s38 h39 =>
joinC (α := AV × AV × Unit → AH → R) (fun s41 h42 =>
pPick s41.2.1 s41.1 (.bool false) fun v44 =>
some (v44, h42)) fun j43 =>
pWant s38.2.2.1 true (
pPick s38.2.1 (.bool true) s38.1 fun v45 =>
j43 (v45, s38.2.2.1, ()) h39) (
j43 (.undef, s38.2.2.1, ()) h39)) fun j40 =>
pWant s35.1 false (
pFieldA s35.2.2.1 0 fun v46 =>
pLoad1 h36 v46 fun v47 =>
pInt .eql v47 (.int .i64 (.ofNat 1)) fun v48 =>
j40 (v48, s35.1, s35.2.1, ()) h36) (
j40 (.undef, s35.1, s35.2.1, ()) h36)) fun j37 =>
pWant v34 true (
pFieldA s31.2.2.1 4 fun v49 =>
pLoad1 h32 v49 fun v50 =>
pInt .eql v50 (.int .u64 (.ofNat 0)) fun v51 =>
j37 (v51, v34, s31.2.2.1, ()) h32) (
j37 (.undef, v34, s31.2.2.1, ()) h32)) fun j33 =>
pWant v30 true (
pLoadN h28 s27.2.2.1 2 fun v52 =>
pFieldA s27.2.2.2.1 3 fun v53 =>
pLoad1 h28 v53 fun v54 =>
pCall c (.fn 137 [] []) [v52, v54] h28 fun v55 h56 =>
j33 (v55, v30, s27.2.2.2.1, ()) h56) (
j33 (.undef, v30, s27.2.2.2.1, ()) h28)) fun j29 =>
pWant v26 true (
pLoadN h24 s23.2.2.2.1 2 fun v57 =>
pFieldA s23.2.2.2.2.1 2 fun v58 =>
pLoad1 h24 v58 fun v59 =>
pCall c (.fn 137 [] []) [v57, v59] h24 fun v60 h61 =>
j29 (v60, v26, s23.2.2.1, s23.2.2.2.2.1, ()) h61) (
j29 (.undef, v26, s23.2.2.1, s23.2.2.2.2.1, ()) h24)) fun j25 =>
pWant v22 true (
pLoadN h21 v9 2 fun v62 =>
pFieldA v0 1 fun v63 =>
pLoad1 h21 v63 fun v64 =>
pCall c (.fn 137 [] []) [v62, v64] h21 fun v65 h66 =>
j25 (v65, v22, v13, v11, v0, ()) h66) (
j25 (.undef, v22, v13, v11, v0, ()) h21)
theorem S101_eq (c : CV) (a0 : AV) (h : AH) : enterK Tryz.prog NN P101 c 101 [a0] h = S101 c a0 h := by kernel_rfl
def W101 (c : CV) (l : List AV) (h : AH) : R := match l with | [a0] => S101 c a0 h | _ => none
theorem W101_ok : WOk Tryz.prog 101 W101 := by
  intro c l h r e
  unfold W101 at e
  split at e
  · exact ⟨P101, by rw [S101_eq]; exact e⟩
  · cases e
/- (quietus/check.stack).op -/
def P102 : Pl := (.n none .z (.n none .z (.n none (.r [[4]]) .z)))
def S102 (c : CV) (a0 a1 : AV) (h : AH) : R :=
pBox h 33 a1 fun v0 h1 =>
pLenS a0 fun v2 =>
pInt .eql v2 (.int .i64 (.ofNat 0)) fun v3 =>
pCond v3 (
some ((.int .i64 (.ofNat 0)), h1)) (
joinC (α := AV × Unit → AH → R) (fun s4 h5 =>
some (s4.1, h5)) fun j6 =>
pFieldA v0 0 fun v7 =>
pLoad1 h1 v7 fun v8 =>
pCall c (.fn 79 [] []) [a0] h1 fun v9 h10 =>
pIdxS v8 v9 5 fun v11 =>
pFieldA v11 0 fun v12 =>
pLoad1 h10 v12 fun v13 =>
pChk v7 none v8 h1 h10 h1.nx <|
j6 (v13, ()) h10)
theorem S102_eq (c : CV) (a0 a1 : AV) (h : AH) : enterK Tryz.prog NN P102 c 102 [a0, a1] h = S102 c a0 a1 h := by kernel_rfl
def W102 (c : CV) (l : List AV) (h : AH) : R := match l with | [a0, a1] => S102 c a0 a1 h | _ => none
theorem W102_ok : WOk Tryz.prog 102 W102 := by
  intro c l h r e
  unfold W102 at e
  split at e
  · exact ⟨P102, by rw [S102_eq]; exact e⟩
  · cases e
/- quietus/check.begins -/
def P103 : Pl := (.n none .z (.n none (.r [[7, 5]]) .z))
def S103 (_ : CV) (a0 : AV) (h : AH) : R :=
pInt .eql a0 (.int .i64 (.ofNat 14)) fun v0 =>
joinC (α := AV × AV × Unit → AH → R) (fun s1 h2 =>
pPick s1.2.1 (.bool true) s1.1 fun v4 =>
some (v4, h2)) fun j3 =>
pWant v0 false (
pInt .eql a0 (.int .i64 (.ofNat 17)) fun v5 =>
j3 (v5, v0, ()) h) (
j3 (.undef, v0, ()) h)
theorem S103_eq (c : CV) (a0 : AV) (h : AH) : enterK Tryz.prog NN P103 c 103 [a0] h = S103 c a0 h := by kernel_rfl
def W103 (c : CV) (l : List AV) (h : AH) : R := match l with | [a0] => S103 c a0 h | _ => none
theorem W103_ok : WOk Tryz.prog 103 W103 := by
  intro c l h r e
  unfold W103 at e
  split at e
  · exact ⟨P103, by rw [S103_eq]; exact e⟩
  · cases e
/- quietus/code.Jumps -/
def P104 : Pl := (.n none .z (.n none (.r [[7, 5]]) .z))
def S104 (_ : CV) (a0 : AV) (h : AH) : R :=
pInt .eql a0 (.int .i64 (.ofNat 12)) fun v0 =>
joinC (α := AV × AV × Unit → AH → R) (fun s1 h2 =>
pPick s1.2.1 (.bool true) s1.1 fun v4 =>
some (v4, h2)) fun j3 =>
pWant v0 false (
pInt .eql a0 (.int .i64 (.ofNat 13)) fun v5 =>
j3 (v5, v0, ()) h) (
j3 (.undef, v0, ()) h)
theorem S104_eq (c : CV) (a0 : AV) (h : AH) : enterK Tryz.prog NN P104 c 104 [a0] h = S104 c a0 h := by kernel_rfl
def W104 (c : CV) (l : List AV) (h : AH) : R := match l with | [a0] => S104 c a0 h | _ => none
theorem W104_ok : WOk Tryz.prog 104 W104 := by
  intro c l h r e
  unfold W104 at e
  split at e
  · exact ⟨P104, by rw [S104_eq]; exact e⟩
  · cases e
/- (*quietus/slate.Slate).add -/
def P105 : Pl := .z
def S105 (_ : CV) (a0 a1 : AV) (h : AH) : R :=
pNil a0 fun v0 =>
pFieldA v0 0 fun v1 =>
pLoad1 h v1 fun v2 =>
pLenS v2 fun v3 =>
pInt .geq v3 (.int .i64 (.ofNat 16)) fun v4 =>
pCond v4 (
some ((.bool false), h)) (
pNil a0 fun v5 =>
pFieldA v5 0 fun v6 =>
pLoad1 h v6 fun v7 =>
pBuildS h 20 [.nili] 1 [(0, 1, a1)] fun v8 h9 =>
pAppend h9 20 1 v7 v8 fun v10 h11 =>
pNil a0 fun v12 =>
pFieldA v12 0 fun v13 =>
pStore h11 v13 v10 1 fun h14 =>
some ((.bool true), h14))
theorem S105_eq (c : CV) (a0 a1 : AV) (h : AH) : enterK Tryz.prog NN P105 c 105 [a0, a1] h = S105 c a0 a1 h := by kernel_rfl
def W105 (c : CV) (l : List AV) (h : AH) : R := match l with | [a0, a1] => S105 c a0 a1 h | _ => none
theorem W105_ok : WOk Tryz.prog 105 W105 := by
  intro c l h r e
  unfold W105 at e
  split at e
  · exact ⟨P105, by rw [S105_eq]; exact e⟩
  · cases e
/- (*quietus/interp.Interp).truth -/
def P106 : Pl := .z
def S106 (_ : CV) (a0 a1 : AV) (h : AH) : R :=
pBox h 103 a0 fun v0 h1 =>
pBox h1 30 a1 fun v2 h3 =>
some ((.fn 138 [] [v0, v2]), h3)
theorem S106_eq (c : CV) (a0 a1 : AV) (h : AH) : enterK Tryz.prog NN P106 c 106 [a0, a1] h = S106 c a0 a1 h := by kernel_rfl
def W106 (c : CV) (l : List AV) (h : AH) : R := match l with | [a0, a1] => S106 c a0 a1 h | _ => none
theorem W106_ok : WOk Tryz.prog 106 W106 := by
  intro c l h r e
  unfold W106 at e
  split at e
  · exact ⟨P106, by rw [S106_eq]; exact e⟩
  · cases e
/- quietus/list.Add -/
def P107 : Pl := (.n none .z (.n none .z (.n none .z (.n none (.r [[17, 15, 9]]) .z))))
def S107 (c : CV) (a0 a1 a2 : AV) (h : AH) : R :=
pBox h 3 a1 fun v0 h1 =>
pBox h1 24 a2 fun v2 h3 =>
pBox h3 4 (.bool false) fun v4 h5 =>
pStore h5 v4 (.bool false) 1 fun h6 =>
pLoad1 h6 v0 fun v7 =>
pCall c (.fn 140 [] []) [a0, v7, (.fn 141 [] [v0, v2, v4])] h6 fun v8 h9 =>
pLoad1 h9 v4 fun v10 =>
joinC (α := AV × AV × AV × Unit → AH → R) (fun s11 h12 =>
pPick s11.2.1 s11.1 (.bool false) fun v14 =>
some ((.tup [v14, s11.2.2.1]), h12)) fun j13 =>
pWant v10 true (
pInt .eql v8 (.int .i64 (.ofNat 0)) fun v15 =>
j13 (v15, v10, v8, ()) h9) (
j13 (.undef, v10, v8, ()) h9)
theorem S107_eq (c : CV) (a0 a1 a2 : AV) (h : AH) : enterK Tryz.prog NN P107 c 107 [a0, a1, a2] h = S107 c a0 a1 a2 h := by kernel_rfl
def W107 (c : CV) (l : List AV) (h : AH) : R := match l with | [a0, a1, a2] => S107 c a0 a1 a2 h | _ => none
theorem W107_ok : WOk Tryz.prog 107 W107 := by
  intro c l h r e
  unfold W107 at e
  split at e
  · exact ⟨P107, by rw [S107_eq]; exact e⟩
  · cases e
/- quietus/list.Cut -/
def P108 : Pl := (.n none .z (.n none .z (.n none .z (.n none (.r [[17, 15, 9]]) .z))))
def S108 (c : CV) (a0 a1 a2 : AV) (h : AH) : R :=
pBox h 3 a1 fun v0 h1 =>
pBox h1 24 a2 fun v2 h3 =>
pBox h3 4 (.bool false) fun v4 h5 =>
pStore h5 v4 (.bool false) 1 fun h6 =>
pLoad1 h6 v0 fun v7 =>
pCall c (.fn 140 [] []) [a0, v7, (.fn 148 [] [v0, v2, v4])] h6 fun v8 h9 =>
pLoad1 h9 v4 fun v10 =>
joinC (α := AV × AV × AV × Unit → AH → R) (fun s11 h12 =>
pPick s11.2.1 s11.1 (.bool false) fun v14 =>
some ((.tup [v14, s11.2.2.1]), h12)) fun j13 =>
pWant v10 true (
pInt .eql v8 (.int .i64 (.ofNat 0)) fun v15 =>
j13 (v15, v10, v8, ()) h9) (
j13 (.undef, v10, v8, ()) h9)
theorem S108_eq (c : CV) (a0 a1 a2 : AV) (h : AH) : enterK Tryz.prog NN P108 c 108 [a0, a1, a2] h = S108 c a0 a1 a2 h := by kernel_rfl
def W108 (c : CV) (l : List AV) (h : AH) : R := match l with | [a0, a1, a2] => S108 c a0 a1 a2 h | _ => none
theorem W108_ok : WOk Tryz.prog 108 W108 := by
  intro c l h r e
  unfold W108 at e
  split at e
  · exact ⟨P108, by rw [S108_eq]; exact e⟩
  · cases e
/- quietus/list.Has -/
def P109 : Pl := (.n none .z (.n none .z (.n none .z (.n none (.r [[17, 15, 9]]) .z))))
def S109 (c : CV) (a0 a1 a2 : AV) (h : AH) : R :=
pBox h 3 a1 fun v0 h1 =>
pBox h1 24 a2 fun v2 h3 =>
pBox h3 4 (.bool false) fun v4 h5 =>
pStore h5 v4 (.bool false) 1 fun h6 =>
pLoad1 h6 v0 fun v7 =>
pCall c (.fn 140 [] []) [a0, v7, (.fn 151 [] [v0, v2, v4])] h6 fun v8 h9 =>
pLoad1 h9 v4 fun v10 =>
joinC (α := AV × AV × AV × Unit → AH → R) (fun s11 h12 =>
pPick s11.2.1 s11.1 (.bool false) fun v14 =>
some ((.tup [v14, s11.2.2.1]), h12)) fun j13 =>
pWant v10 true (
pInt .eql v8 (.int .i64 (.ofNat 0)) fun v15 =>
j13 (v15, v10, v8, ()) h9) (
j13 (.undef, v10, v8, ()) h9)
theorem S109_eq (c : CV) (a0 a1 a2 : AV) (h : AH) : enterK Tryz.prog NN P109 c 109 [a0, a1, a2] h = S109 c a0 a1 a2 h := by kernel_rfl
def W109 (c : CV) (l : List AV) (h : AH) : R := match l with | [a0, a1, a2] => S109 c a0 a1 a2 h | _ => none
theorem W109_ok : WOk Tryz.prog 109 W109 := by
  intro c l h r e
  unfold W109 at e
  split at e
  · exact ⟨P109, by rw [S109_eq]; exact e⟩
  · cases e
/- quietus/table.Put -/
def P110 : Pl := (.n none .z (.n none .z (.n none .z (.n none (.r [[19, 17, 11]]) .z))))
def S110 (c : CV) (a0 a1 a2 a3 : AV) (h : AH) : R :=
pBox h 3 a1 fun v0 h1 =>
pBox h1 24 a2 fun v2 h3 =>
pBox h3 24 a3 fun v4 h5 =>
pBox h5 4 (.bool false) fun v6 h7 =>
pStore h7 v6 (.bool false) 1 fun h8 =>
pLoad1 h8 v0 fun v9 =>
pCall c (.fn 140 [] []) [a0, v9, (.fn 152 [] [v0, v2, v4, v6])] h8 fun v10 h11 =>
pLoad1 h11 v6 fun v12 =>
joinC (α := AV × AV × AV × Unit → AH → R) (fun s13 h14 =>
pPick s13.2.1 s13.1 (.bool false) fun v16 =>
some ((.tup [v16, s13.2.2.1]), h14)) fun j15 =>
pWant v12 true (
pInt .eql v10 (.int .i64 (.ofNat 0)) fun v17 =>
j15 (v17, v12, v10, ()) h11) (
j15 (.undef, v12, v10, ()) h11)
theorem S110_eq (c : CV) (a0 a1 a2 a3 : AV) (h : AH) : enterK Tryz.prog NN P110 c 110 [a0, a1, a2, a3] h = S110 c a0 a1 a2 a3 h := by kernel_rfl
def W110 (c : CV) (l : List AV) (h : AH) : R := match l with | [a0, a1, a2, a3] => S110 c a0 a1 a2 a3 h | _ => none
theorem W110_ok : WOk Tryz.prog 110 W110 := by
  intro c l h r e
  unfold W110 at e
  split at e
  · exact ⟨P110, by rw [S110_eq]; exact e⟩
  · cases e
/- (*quietus/interp.Interp).number -/
def P111 : Pl := .z
def S111 (_ : CV) (a0 a1 : AV) (h : AH) : R :=
pBox h 103 a0 fun v0 h1 =>
pBox h1 30 a1 fun v2 h3 =>
some ((.fn 157 [] [v0, v2]), h3)
theorem S111_eq (c : CV) (a0 a1 : AV) (h : AH) : enterK Tryz.prog NN P111 c 111 [a0, a1] h = S111 c a0 a1 h := by kernel_rfl
def W111 (c : CV) (l : List AV) (h : AH) : R := match l with | [a0, a1] => S111 c a0 a1 h | _ => none
theorem W111_ok : WOk Tryz.prog 111 W111 := by
  intro c l h r e
  unfold W111 at e
  split at e
  · exact ⟨P111, by rw [S111_eq]; exact e⟩
  · cases e
/- quietus/table.Get -/
def P112 : Pl := .z
def S112 (c : CV) (a0 a1 a2 : AV) (h : AH) : R :=
pBox h 3 a1 fun v0 h1 =>
pBox h1 24 a2 fun v2 h3 =>
pBox h3 24 (.int .u64 (.ofNat 0)) fun v4 h5 =>
pBox h5 4 (.bool false) fun v6 h7 =>
pStore h7 v4 (.int .u64 (.ofNat 0)) 1 fun h8 =>
pStore h8 v6 (.bool false) 1 fun h9 =>
pLoad1 h9 v0 fun v10 =>
pCall c (.fn 140 [] []) [a0, v10, (.fn 159 [] [v0, v2, v4, v6])] h9 fun v11 h12 =>
pInt .neq v11 (.int .i64 (.ofNat 0)) fun v13 =>
pCond v13 (
some ((.tup [(.int .u64 (.ofNat 0)), (.bool false), v11]), h12)) (
pLoad1 h12 v4 fun v14 =>
pLoad1 h12 v6 fun v15 =>
some ((.tup [v14, v15, (.int .i64 (.ofNat 0))]), h12))
theorem S112_eq (c : CV) (a0 a1 a2 : AV) (h : AH) : enterK Tryz.prog NN P112 c 112 [a0, a1, a2] h = S112 c a0 a1 a2 h := by kernel_rfl
def W112 (c : CV) (l : List AV) (h : AH) : R := match l with | [a0, a1, a2] => S112 c a0 a1 a2 h | _ => none
theorem W112_ok : WOk Tryz.prog 112 W112 := by
  intro c l h r e
  unfold W112 at e
  split at e
  · exact ⟨P112, by rw [S112_eq]; exact e⟩
  · cases e
/- quietus/table.Del -/
def P113 : Pl := (.n none .z (.n none .z (.n none .z (.n none (.r [[17, 15, 9]]) .z))))
def S113 (c : CV) (a0 a1 a2 : AV) (h : AH) : R :=
pBox h 3 a1 fun v0 h1 =>
pBox h1 24 a2 fun v2 h3 =>
pBox h3 4 (.bool false) fun v4 h5 =>
pStore h5 v4 (.bool false) 1 fun h6 =>
pLoad1 h6 v0 fun v7 =>
pCall c (.fn 140 [] []) [a0, v7, (.fn 160 [] [v0, v2, v4])] h6 fun v8 h9 =>
pLoad1 h9 v4 fun v10 =>
joinC (α := AV × AV × AV × Unit → AH → R) (fun s11 h12 =>
pPick s11.2.1 s11.1 (.bool false) fun v14 =>
some ((.tup [v14, s11.2.2.1]), h12)) fun j13 =>
pWant v10 true (
pInt .eql v8 (.int .i64 (.ofNat 0)) fun v15 =>
j13 (v15, v10, v8, ()) h9) (
j13 (.undef, v10, v8, ()) h9)
theorem S113_eq (c : CV) (a0 a1 a2 : AV) (h : AH) : enterK Tryz.prog NN P113 c 113 [a0, a1, a2] h = S113 c a0 a1 a2 h := by kernel_rfl
def W113 (c : CV) (l : List AV) (h : AH) : R := match l with | [a0, a1, a2] => S113 c a0 a1 a2 h | _ => none
theorem W113_ok : WOk Tryz.prog 113 W113 := by
  intro c l h r e
  unfold W113 at e
  split at e
  · exact ⟨P113, by rw [S113_eq]; exact e⟩
  · cases e
/- (*quietus/interp.Interp).push -/
def P114 : Pl := .z
def S114 (c : CV) (a0 a1 a2 : AV) (h : AH) : R :=
pNil a0 fun v0 =>
pFieldA v0 1 fun v1 =>
pLoad1 h v1 fun v2 =>
pCall c (.fn 161 [] []) [v2, a1, a2] h fun v3 h4 =>
pInt .neq v3 (.int .i64 (.ofNat 0)) fun v5 =>
pCond v5 (
some (v3, h4)) (
pNil a0 fun v6 =>
pFieldA v6 14 fun v7 =>
pLoad1 h4 v7 fun v8 =>
pCall c (.fn 158 [] []) [v8] h4 fun v9 h10 =>
pUn .not v9 fun v11 =>
pCond v11 (
some ((.int .i64 (.ofNat 5)), h10)) (
some ((.int .i64 (.ofNat 0)), h10)))
theorem S114_eq (c : CV) (a0 a1 a2 : AV) (h : AH) : enterK Tryz.prog NN P114 c 114 [a0, a1, a2] h = S114 c a0 a1 a2 h := by kernel_rfl
def W114 (c : CV) (l : List AV) (h : AH) : R := match l with | [a0, a1, a2] => S114 c a0 a1 a2 h | _ => none
theorem W114_ok : WOk Tryz.prog 114 W114 := by
  intro c l h r e
  unfold W114 at e
  split at e
  · exact ⟨P114, by rw [S114_eq]; exact e⟩
  · cases e
/- (*quietus/interp.Interp).take -/
def P115 : Pl := (.n none .z (.n none .z (.n none (.n none (.r [[24, 22, 9, 8, 7, 4, 0]]) .z) .z)))
def S115 (c : CV) (a0 a1 a2 : AV) (h : AH) : R :=
pBox h 30 a1 fun v0 h1 =>
pNil a0 fun v2 =>
pFieldA v2 1 fun v3 =>
pLoad1 h1 v3 fun v4 =>
pCall c (.fn 162 [] []) [v4, a2] h1 fun v5 h6 =>
pExtract v5 0 fun v7 =>
pExtract v5 1 fun v8 =>
pExtract v5 2 fun v9 =>
pInt .eql v9 (.int .i64 (.ofNat 0)) fun v10 =>
joinC (α := AV × AV × AV × AV × AV × AV × AV × Unit → AH → R) (fun s11 h12 =>
pPick s11.2.1 s11.1 (.bool false) fun v14 =>
pCond v14 (
pCall c (.fn 129 [] []) [s11.2.2.2.2.2.2.1] h12 fun v15 h16 =>
some (v15, h16)) (
pLoadN h12 s11.2.2.2.2.2.1 5 fun v17 =>
pCall c (.fn 111 [] []) [s11.2.2.2.2.2.2.1, v17] h12 fun v18 h19 =>
pCall c v18 [s11.2.2.2.2.1, s11.2.2.2.1, s11.2.2.1] h19 fun v20 h21 =>
some (v20, h21))) fun j13 =>
pWant v10 true (
pUn .not v8 fun v22 =>
j13 (v22, v10, v9, v8, v7, v0, a0, ()) h6) (
j13 (.undef, v10, v9, v8, v7, v0, a0, ()) h6)
theorem S115_eq (c : CV) (a0 a1 a2 : AV) (h : AH) : enterK Tryz.prog NN P115 c 115 [a0, a1, a2] h = S115 c a0 a1 a2 h := by kernel_rfl
def W115 (c : CV) (l : List AV) (h : AH) : R := match l with | [a0, a1, a2] => S115 c a0 a1 a2 h | _ => none
theorem W115_ok : WOk Tryz.prog 115 W115 := by
  intro c l h r e
  unfold W115 at e
  split at e
  · exact ⟨P115, by rw [S115_eq]; exact e⟩
  · cases e
/- quietus/tree.Put -/
def P116 : Pl := (.n none .z (.n none .z (.n none .z (.n none (.r [[19, 17, 11]]) .z))))
def S116 (c : CV) (a0 a1 a2 a3 : AV) (h : AH) : R :=
pBox h 3 a1 fun v0 h1 =>
pBox h1 24 a2 fun v2 h3 =>
pBox h3 24 a3 fun v4 h5 =>
pBox h5 4 (.bool false) fun v6 h7 =>
pStore h7 v6 (.bool false) 1 fun h8 =>
pLoad1 h8 v0 fun v9 =>
pCall c (.fn 140 [] []) [a0, v9, (.fn 163 [] [v0, v2, v4, v6])] h8 fun v10 h11 =>
pLoad1 h11 v6 fun v12 =>
joinC (α := AV × AV × AV × Unit → AH → R) (fun s13 h14 =>
pPick s13.2.1 s13.1 (.bool false) fun v16 =>
some ((.tup [v16, s13.2.2.1]), h14)) fun j15 =>
pWant v12 true (
pInt .eql v10 (.int .i64 (.ofNat 0)) fun v17 =>
j15 (v17, v12, v10, ()) h11) (
j15 (.undef, v12, v10, ()) h11)
theorem S116_eq (c : CV) (a0 a1 a2 a3 : AV) (h : AH) : enterK Tryz.prog NN P116 c 116 [a0, a1, a2, a3] h = S116 c a0 a1 a2 a3 h := by kernel_rfl
def W116 (c : CV) (l : List AV) (h : AH) : R := match l with | [a0, a1, a2, a3] => S116 c a0 a1 a2 a3 h | _ => none
theorem W116_ok : WOk Tryz.prog 116 W116 := by
  intro c l h r e
  unfold W116 at e
  split at e
  · exact ⟨P116, by rw [S116_eq]; exact e⟩
  · cases e
/- quietus/tree.Get -/
def P117 : Pl := .z
def S117 (c : CV) (a0 a1 a2 : AV) (h : AH) : R :=
pBox h 3 a1 fun v0 h1 =>
pBox h1 24 a2 fun v2 h3 =>
pBox h3 24 (.int .u64 (.ofNat 0)) fun v4 h5 =>
pBox h5 4 (.bool false) fun v6 h7 =>
pStore h7 v4 (.int .u64 (.ofNat 0)) 1 fun h8 =>
pStore h8 v6 (.bool false) 1 fun h9 =>
pLoad1 h9 v0 fun v10 =>
pCall c (.fn 140 [] []) [a0, v10, (.fn 167 [] [v0, v2, v4, v6])] h9 fun v11 h12 =>
pInt .neq v11 (.int .i64 (.ofNat 0)) fun v13 =>
pCond v13 (
some ((.tup [(.int .u64 (.ofNat 0)), (.bool false), v11]), h12)) (
pLoad1 h12 v4 fun v14 =>
pLoad1 h12 v6 fun v15 =>
some ((.tup [v14, v15, (.int .i64 (.ofNat 0))]), h12))
theorem S117_eq (c : CV) (a0 a1 a2 : AV) (h : AH) : enterK Tryz.prog NN P117 c 117 [a0, a1, a2] h = S117 c a0 a1 a2 h := by kernel_rfl
def W117 (c : CV) (l : List AV) (h : AH) : R := match l with | [a0, a1, a2] => S117 c a0 a1 a2 h | _ => none
theorem W117_ok : WOk Tryz.prog 117 W117 := by
  intro c l h r e
  unfold W117 at e
  split at e
  · exact ⟨P117, by rw [S117_eq]; exact e⟩
  · cases e
/- quietus/tree.Del -/
def P118 : Pl := (.n none .z (.n none .z (.n none .z (.n none (.r [[17, 15, 9]]) .z))))
def S118 (c : CV) (a0 a1 a2 : AV) (h : AH) : R :=
pBox h 3 a1 fun v0 h1 =>
pBox h1 24 a2 fun v2 h3 =>
pBox h3 4 (.bool false) fun v4 h5 =>
pStore h5 v4 (.bool false) 1 fun h6 =>
pLoad1 h6 v0 fun v7 =>
pCall c (.fn 140 [] []) [a0, v7, (.fn 168 [] [v0, v2, v4])] h6 fun v8 h9 =>
pLoad1 h9 v4 fun v10 =>
joinC (α := AV × AV × AV × Unit → AH → R) (fun s11 h12 =>
pPick s11.2.1 s11.1 (.bool false) fun v14 =>
some ((.tup [v14, s11.2.2.1]), h12)) fun j13 =>
pWant v10 true (
pInt .eql v8 (.int .i64 (.ofNat 0)) fun v15 =>
j13 (v15, v10, v8, ()) h9) (
j13 (.undef, v10, v8, ()) h9)
theorem S118_eq (c : CV) (a0 a1 a2 : AV) (h : AH) : enterK Tryz.prog NN P118 c 118 [a0, a1, a2] h = S118 c a0 a1 a2 h := by kernel_rfl
def W118 (c : CV) (l : List AV) (h : AH) : R := match l with | [a0, a1, a2] => S118 c a0 a1 a2 h | _ => none
theorem W118_ok : WOk Tryz.prog 118 W118 := by
  intro c l h r e
  unfold W118 at e
  split at e
  · exact ⟨P118, by rw [S118_eq]; exact e⟩
  · cases e
/- quietus/tree.Range -/
def P119 : Pl := .z
def S119 (c : CV) (a0 a1 a2 a3 : AV) (h : AH) : R :=
pBox h 3 a1 fun v0 h1 =>
pBox h1 24 a2 fun v2 h3 =>
pBox h3 24 a3 fun v4 h5 =>
pBox h5 193 .nils fun v6 h7 =>
pLoad1 h7 v0 fun v8 =>
pCall c (.fn 140 [] []) [a0, v8, (.fn 170 [] [v0, v2, v4, v6])] h7 fun v9 h10 =>
pInt .neq v9 (.int .i64 (.ofNat 0)) fun v11 =>
pCond v11 (
some ((.tup [.nils, v9]), h10)) (
pLoad1 h10 v6 fun v12 =>
some ((.tup [v12, (.int .i64 (.ofNat 0))]), h10))
theorem S119_eq (c : CV) (a0 a1 a2 a3 : AV) (h : AH) : enterK Tryz.prog NN P119 c 119 [a0, a1, a2, a3] h = S119 c a0 a1 a2 a3 h := by kernel_rfl
def W119 (c : CV) (l : List AV) (h : AH) : R := match l with | [a0, a1, a2, a3] => S119 c a0 a1 a2 a3 h | _ => none
theorem W119_ok : WOk Tryz.prog 119 W119 := by
  intro c l h r e
  unfold W119 at e
  split at e
  · exact ⟨P119, by rw [S119_eq]; exact e⟩
  · cases e
/- quietus/interp.place -/
def P120 : Pl := (.n none .z (.n none (.n none (.r [[13, 8, 1, 0], [20, 15, 1, 0]]) .z) .z))
def S120 (_ : CV) (a0 a1 : AV) (h : AH) : R :=
pInt .geq a0 (.int .u64 (.ofNat 2147483648)) fun v0 =>
joinC (α := AV × AV × AV × AV × Unit → AH → R) (fun s1 h2 =>
pPick s1.2.1 (.bool true) s1.1 fun v4 =>
joinC (α := AV × AV × AV × AV × Unit → AH → R) (fun s5 h6 =>
pPick s5.2.1 (.bool true) s5.1 fun v8 =>
pCond v8 (
some ((.tup [(.int .i64 (.ofNat 0)), (.int .i64 (.ofNat 2))]), h6)) (
pConvI .i64 s5.2.2.2.1 fun v9 =>
pInt .add v9 s5.2.2.1 fun v10 =>
some ((.tup [v10, (.int .i64 (.ofNat 0))]), h6))) fun j7 =>
pWant v4 false (
pConvI .i64 s1.2.2.2.1 fun v11 =>
pInt .add v11 s1.2.2.1 fun v12 =>
pInt .lss v12 (.int .i64 (.ofNat 6)) fun v13 =>
j7 (v13, v4, s1.2.2.1, s1.2.2.2.1, ()) h2) (
j7 (.undef, v4, s1.2.2.1, s1.2.2.2.1, ()) h2)) fun j3 =>
pWant v0 false (
pConvI .i64 a0 fun v14 =>
pInt .add v14 a1 fun v15 =>
pInt .geq v15 (.int .i64 (.ofNat 2147483648)) fun v16 =>
j3 (v16, v0, a1, a0, ()) h) (
j3 (.undef, v0, a1, a0, ()) h)
theorem S120_eq (c : CV) (a0 a1 : AV) (h : AH) : enterK Tryz.prog NN P120 c 120 [a0, a1] h = S120 c a0 a1 h := by kernel_rfl
def W120 (c : CV) (l : List AV) (h : AH) : R := match l with | [a0, a1] => S120 c a0 a1 h | _ => none
theorem W120_ok : WOk Tryz.prog 120 W120 := by
  intro c l h r e
  unfold W120 at e
  split at e
  · exact ⟨P120, by rw [S120_eq]; exact e⟩
  · cases e
/- (*quietus/view.View).Write -/
def P121 : Pl := .z
def S121 (c : CV) (a0 a1 a2 : AV) (h : AH) : R :=
pCall c (.fn 70 [] []) [a0, a1] h fun v0 h1 =>
pUn .not v0 fun v2 =>
pCond v2 (
some ((.int .i64 (.ofNat 2)), h1)) (
pNil a0 fun v3 =>
pFieldA v3 2 fun v4 =>
pLoad1 h1 v4 fun v5 =>
pCall c (.fn 97 [] []) [v5, a1, a2] h1 fun v6 h7 =>
some (v6, h7))
theorem S121_eq (c : CV) (a0 a1 a2 : AV) (h : AH) : enterK Tryz.prog NN P121 c 121 [a0, a1, a2] h = S121 c a0 a1 a2 h := by kernel_rfl
def W121 (c : CV) (l : List AV) (h : AH) : R := match l with | [a0, a1, a2] => S121 c a0 a1 a2 h | _ => none
theorem W121_ok : WOk Tryz.prog 121 W121 := by
  intro c l h r e
  unfold W121 at e
  split at e
  · exact ⟨P121, by rw [S121_eq]; exact e⟩
  · cases e
/- quietus/arena.Alloc -/
def P122 : Pl := .z
def S122 (c : CV) (a0 a1 : AV) (h : AH) : R :=
pCall c (.fn 173 [] []) [a1] h fun v0 h1 =>
pInt .eql v0 (.int .i64 (.ofNat 0)) fun v2 =>
pCond v2 (
some ((.tup [(.int .i64 (.ofNat 0)), (.int .i64 (.ofNat 3))]), h1)) (
pCall c (.fn 33 [] []) [v0] h1 fun v3 h4 =>
pCall c (.fn 56 [] []) [a0, v3] h4 fun v5 h6 =>
pExtract v5 0 fun v7 =>
pExtract v5 1 fun v8 =>
pInt .neq v8 (.int .i64 (.ofNat 0)) fun v9 =>
pCond v9 (
some ((.tup [(.int .i64 (.ofNat 0)), v8]), h6)) (
pInt .neq v7 (.int .u64 (.ofNat 0)) fun v10 =>
pCond v10 (
pCall c (.fn 174 [] []) [a0, v0, v7] h6 fun v11 h12 =>
pExtract v11 0 fun v13 =>
pExtract v11 1 fun v14 =>
some ((.tup [v13, v14]), h12)) (
pCall c (.fn 175 [] []) [a0, v0] h6 fun v15 h16 =>
pExtract v15 0 fun v17 =>
pExtract v15 1 fun v18 =>
some ((.tup [v17, v18]), h16))))
theorem S122_eq (c : CV) (a0 a1 : AV) (h : AH) : enterK Tryz.prog NN P122 c 122 [a0, a1] h = S122 c a0 a1 h := by kernel_rfl
def W122 (c : CV) (l : List AV) (h : AH) : R := match l with | [a0, a1] => S122 c a0 a1 h | _ => none
theorem W122_ok : WOk Tryz.prog 122 W122 := by
  intro c l h r e
  unfold W122 at e
  split at e
  · exact ⟨P122, by rw [S122_eq]; exact e⟩
  · cases e
/- quietus/arena.Free -/
def P123 : Pl := (.n none .z (.n none .z (.n (some [7, 5, 1, 0]) (.n none (.r [[19, 17, 7, 5, 1, 0]]) .z) (.n (some [7, 1, 0]) .z (.n (some [7]) .z .z)))))
def S123 (c : CV) (a0 a1 : AV) (h : AH) : R :=
pCall c (.fn 55 [] []) [a0, a1] h fun v0 h1 =>
pExtract v0 0 fun v2 =>
pExtract v0 1 fun v3 =>
pExtract v0 2 fun v4 =>
joinC (α := AV × AV × AV × AV × Unit → AH → List Nat → R) (fun s5 h6 d7 =>
joinC (α := AV × AV × AV × Unit → AH → List Nat → R) (fun s9 h10 d11 =>
joinC (α := AV × Unit → AH → List Nat → R) (fun s13 h14 d15 =>
pLeave d15 h14 fun h17 =>
some (s13.1, h17)) fun j16 =>
pInt .eql s9.1 (.int .i64 (.ofNat 0)) fun v18 =>
pCond v18 (
pCall c (.fn 176 [] []) [s9.2.2.1, s9.2.1] h10 fun _ h20 =>
j16 (s9.1, ()) h20 d11) (
j16 (s9.1, ()) h10 d11)) fun j12 =>
pInt .eql s5.1 (.int .i64 (.ofNat 0)) fun v21 =>
pCond v21 (
pInt .sub s5.2.2.1 (.int .i64 (.ofNat 1)) fun v22 =>
pConvI .u64 s5.2.1 fun v23 =>
pBuild [(.int .i64 (.ofNat 0)), (.int .u64 (.ofNat 0))] [(0, 1, v22), (1, 1, v23)] fun v24 =>
pBuildS h6 35 [(.int .i64 (.ofNat 0)), (.int .u64 (.ofNat 0))] 1 [(0, 2, v24)] fun v25 h26 =>
pCall c (.fn 57 [] []) [s5.2.2.2.1, v25] h26 fun v27 h28 =>
j12 (v27, s5.2.2.1, s5.2.2.2.1, ()) h28 d7) (
j12 (s5.1, s5.2.2.1, s5.2.2.2.1, ()) h6 d7)) fun j8 =>
pInt .eql v4 (.int .i64 (.ofNat 0)) fun v29 =>
joinC (α := AV × AV × AV × AV × AV × AV × Unit → AH → R) (fun s30 h31 =>
pPick s30.2.1 s30.1 (.bool false) fun v33 =>
pCond v33 (
j8 ((.int .i64 (.ofNat 2)), s30.2.2.2.1, s30.2.2.2.2.1, s30.2.2.2.2.2.1, ()) h31 []) (
j8 (s30.2.2.1, s30.2.2.2.1, s30.2.2.2.2.1, s30.2.2.2.2.2.1, ()) h31 [])) fun j32 =>
pWant v29 true (
pUn .not v3 fun v34 =>
j32 (v34, v29, v4, v2, a1, a0, ()) h1) (
j32 (.undef, v29, v4, v2, a1, a0, ()) h1)
theorem S123_eq (c : CV) (a0 a1 : AV) (h : AH) : enterK Tryz.prog NN P123 c 123 [a0, a1] h = S123 c a0 a1 h := by kernel_rfl
def W123 (c : CV) (l : List AV) (h : AH) : R := match l with | [a0, a1] => S123 c a0 a1 h | _ => none
theorem W123_ok : WOk Tryz.prog 123 W123 := by
  intro c l h r e
  unfold W123 at e
  split at e
  · exact ⟨P123, by rw [S123_eq]; exact e⟩
  · cases e
/- (*quietus/interp.Interp).begin -/
def P124 : Pl := (.n none .z (.n none .z (.n none (.r [[]]) .z)))
def S124 (c : CV) (a0 a1 a2 : AV) (h : AH) : R :=
pNil a0 fun v0 =>
pFieldA v0 1 fun v1 =>
pLoad1 h v1 fun v2 =>
pCall c (.fn 177 [] []) [v2] h fun v3 h4 =>
pInt .neq v3 (.int .i64 (.ofNat 0)) fun v5 =>
pCond v5 (
some (v3, h4)) (
joinC (α := Unit → AH → R) (fun _ h7 =>
some ((.int .i64 (.ofNat 0)), h7)) fun j8 =>
pNil a0 fun v9 =>
pFieldA v9 18 fun v10 =>
pLoad1 h4 v10 fun v11 =>
pNil a0 fun v12 =>
pFieldA v12 6 fun v13 =>
pLoadN h4 v13 8 fun v14 =>
pNil a0 fun v15 =>
pFieldA v15 14 fun v16 =>
pLoad1 h4 v16 fun v17 =>
pCall c (.fn 178 [] []) [v17] h4 fun v18 h19 =>
pBuild [(.int .i64 (.ofNat 0)), (.int .i64 (.ofNat 0)), (.int .u64 (.ofNat 0)), (.int .u64 (.ofNat 0)), (.int .u64 (.ofNat 0)), (.int .u64 (.ofNat 0)), (.int .u64 (.ofNat 0)), (.int .u64 (.ofNat 0)), (.int .u64 (.ofNat 0)), (.int .u64 (.ofNat 0)), (.int .i64 (.ofNat 0))] [(0, 1, a1), (1, 1, a2), (2, 8, v14), (10, 1, v18)] fun v20 =>
pBuildS h19 200 [(.int .i64 (.ofNat 0)), (.int .i64 (.ofNat 0)), (.int .u64 (.ofNat 0)), (.int .u64 (.ofNat 0)), (.int .u64 (.ofNat 0)), (.int .u64 (.ofNat 0)), (.int .u64 (.ofNat 0)), (.int .u64 (.ofNat 0)), (.int .u64 (.ofNat 0)), (.int .u64 (.ofNat 0)), (.int .i64 (.ofNat 0))] 1 [(0, 11, v20)] fun v21 h22 =>
pAppend h22 200 11 v11 v21 fun v23 h24 =>
pNil a0 fun v25 =>
pFieldA v25 18 fun v26 =>
pStore h24 v26 v23 1 fun h27 =>
pChk v13 (some 8) v14 h4 h19 h4.nx <|
pChk v10 none v11 h4 h19 h4.nx <|
j8 (()) h27)
theorem S124_eq (c : CV) (a0 a1 a2 : AV) (h : AH) : enterK Tryz.prog NN P124 c 124 [a0, a1, a2] h = S124 c a0 a1 a2 h := by kernel_rfl
def W124 (c : CV) (l : List AV) (h : AH) : R := match l with | [a0, a1, a2] => S124 c a0 a1 a2 h | _ => none
theorem W124_ok : WOk Tryz.prog 124 W124 := by
  intro c l h r e
  unfold W124 at e
  split at e
  · exact ⟨P124, by rw [S124_eq]; exact e⟩
  · cases e
/- (*quietus/interp.Interp).leave -/
def P125 : Pl := .z
def S125 (_ : CV) (a0 : AV) (h : AH) : R :=
pBox h 200 (.agg [(.int .i64 (.ofNat 0)), (.int .i64 (.ofNat 0)), (.int .u64 (.ofNat 0)), (.int .u64 (.ofNat 0)), (.int .u64 (.ofNat 0)), (.int .u64 (.ofNat 0)), (.int .u64 (.ofNat 0)), (.int .u64 (.ofNat 0)), (.int .u64 (.ofNat 0)), (.int .u64 (.ofNat 0)), (.int .i64 (.ofNat 0))]) fun v0 h1 =>
pNil a0 fun v2 =>
pFieldA v2 18 fun v3 =>
pLoad1 h1 v3 fun v4 =>
pNil a0 fun v5 =>
pFieldA v5 18 fun v6 =>
pLoad1 h1 v6 fun v7 =>
pLenS v7 fun v8 =>
pInt .sub v8 (.int .i64 (.ofNat 1)) fun v9 =>
pIdxS v4 v9 11 fun v10 =>
pLoadN h1 v10 11 fun v11 =>
pBox h1 200 (.agg [(.int .i64 (.ofNat 0)), (.int .i64 (.ofNat 0)), (.int .u64 (.ofNat 0)), (.int .u64 (.ofNat 0)), (.int .u64 (.ofNat 0)), (.int .u64 (.ofNat 0)), (.int .u64 (.ofNat 0)), (.int .u64 (.ofNat 0)), (.int .u64 (.ofNat 0)), (.int .u64 (.ofNat 0)), (.int .i64 (.ofNat 0))]) fun v12 h13 =>
pStore h13 v12 v11 11 fun h14 =>
pNil a0 fun v15 =>
pFieldA v15 18 fun v16 =>
pLoad1 h14 v16 fun v17 =>
pNil a0 fun v18 =>
pFieldA v18 18 fun v19 =>
pLoad1 h14 v19 fun v20 =>
pLenS v20 fun v21 =>
pInt .sub v21 (.int .i64 (.ofNat 1)) fun v22 =>
pSlice h14 200 11 v17 none (some v22) fun v23 =>
pNil a0 fun v24 =>
pFieldA v24 18 fun v25 =>
pStore h14 v25 v23 1 fun h26 =>
pLoadN h26 v12 11 fun v27 =>
pStore h26 v0 v27 11 fun h28 =>
pLoadN h28 v0 11 fun v29 =>
some (v29, h28)
theorem S125_eq (c : CV) (a0 : AV) (h : AH) : enterK Tryz.prog NN P125 c 125 [a0] h = S125 c a0 h := by kernel_rfl
def W125 (c : CV) (l : List AV) (h : AH) : R := match l with | [a0] => S125 c a0 h | _ => none
theorem W125_ok : WOk Tryz.prog 125 W125 := by
  intro c l h r e
  unfold W125 at e
  split at e
  · exact ⟨P125, by rw [S125_eq]; exact e⟩
  · cases e
/- (*quietus/view.View).Keep -/
def P126 : Pl := .z
def S126 (c : CV) (a0 : AV) (h : AH) : R :=
pNil a0 fun v0 =>
pFieldA v0 2 fun v1 =>
pLoad1 h v1 fun v2 =>
pCall c (.fn 179 [] []) [v2] h fun v3 h4 =>
some (v3, h4)
theorem S126_eq (c : CV) (a0 : AV) (h : AH) : enterK Tryz.prog NN P126 c 126 [a0] h = S126 c a0 h := by kernel_rfl
def W126 (c : CV) (l : List AV) (h : AH) : R := match l with | [a0] => S126 c a0 h | _ => none
theorem W126_ok : WOk Tryz.prog 126 W126 := by
  intro c l h r e
  unfold W126 at e
  split at e
  · exact ⟨P126, by rw [S126_eq]; exact e⟩
  · cases e
/- (*quietus/interp.Interp).back -/
def P127 : Pl := .z
def S127 (c : CV) (a0 a1 : AV) (h : AH) : R :=
pBox h 200 a1 fun v0 h1 =>
pFieldA v0 2 fun v2 =>
pLoadN h1 v2 8 fun v3 =>
pNil a0 fun v4 =>
pFieldA v4 6 fun v5 =>
pStore h1 v5 v3 8 fun h6 =>
pNil a0 fun v7 =>
pFieldA v7 14 fun v8 =>
pLoad1 h6 v8 fun v9 =>
pFieldA v0 10 fun v10 =>
pLoad1 h6 v10 fun v11 =>
pCall c (.fn 180 [] []) [v9, v11] h6 fun _ h13 =>
some ((.tup []), h13)
theorem S127_eq (c : CV) (a0 a1 : AV) (h : AH) : enterK Tryz.prog NN P127 c 127 [a0, a1] h = S127 c a0 a1 h := by kernel_rfl
def W127 (c : CV) (l : List AV) (h : AH) : R := match l with | [a0, a1] => S127 c a0 a1 h | _ => none
theorem W127_ok : WOk Tryz.prog 127 W127 := by
  intro c l h r e
  unfold W127 at e
  split at e
  · exact ⟨P127, by rw [S127_eq]; exact e⟩
  · cases e
/- (*quietus/view.View).Drop -/
def P128 : Pl := .z
def S128 (c : CV) (a0 : AV) (h : AH) : R :=
pNil a0 fun v0 =>
pFieldA v0 2 fun v1 =>
pLoad1 h v1 fun v2 =>
pCall c (.fn 181 [] []) [v2] h fun v3 h4 =>
some (v3, h4)
theorem S128_eq (c : CV) (a0 : AV) (h : AH) : enterK Tryz.prog NN P128 c 128 [a0] h = S128 c a0 h := by kernel_rfl
def W128 (c : CV) (l : List AV) (h : AH) : R := match l with | [a0] => S128 c a0 h | _ => none
theorem W128_ok : WOk Tryz.prog 128 W128 := by
  intro c l h r e
  unfold W128 at e
  split at e
  · exact ⟨P128, by rw [S128_eq]; exact e⟩
  · cases e
/- (*quietus/interp.Interp).retry -/
def P129 : Pl := (.n none .z (.n none (.n none (.n (some [0]) .z .z) .z) .z))
def S129 (c : CV) (a0 : AV) (h : AH) : R :=
loopC (σ := AV × Unit) NN (fun i3 s0 h1 d2 =>
pNil s0.1 fun v4 =>
pFieldA v4 18 fun v5 =>
pLoad1 h1 v5 fun v6 =>
pLenS v6 fun v7 =>
pInt .gtr v7 (.int .i64 (.ofNat 0)) fun v8 =>
pCond v8 (
pCall c (.fn 125 [] []) [s0.1] h1 fun v9 h10 =>
pBox h10 200 (.agg [(.int .i64 (.ofNat 0)), (.int .i64 (.ofNat 0)), (.int .u64 (.ofNat 0)), (.int .u64 (.ofNat 0)), (.int .u64 (.ofNat 0)), (.int .u64 (.ofNat 0)), (.int .u64 (.ofNat 0)), (.int .u64 (.ofNat 0)), (.int .u64 (.ofNat 0)), (.int .u64 (.ofNat 0)), (.int .i64 (.ofNat 0))]) fun v11 h12 =>
pStore h12 v11 v9 11 fun h13 =>
pNil s0.1 fun v14 =>
pFieldA v14 1 fun v15 =>
pLoad1 h13 v15 fun v16 =>
pCall c (.fn 128 [] []) [v16] h13 fun v17 h18 =>
pInt .neq v17 (.int .i64 (.ofNat 0)) fun v19 =>
pCond v19 (
pLeave d2 h18 fun h20 =>
some (v17, h20)) (
pFieldA v11 0 fun v21 =>
pLoad1 h18 v21 fun v22 =>
pInt .eql v22 (.int .i64 (.ofNat 17)) fun v23 =>
pCond v23 (
pLoadN h18 v11 11 fun v24 =>
pCall c (.fn 127 [] []) [s0.1, v24] h18 fun _ h26 =>
pNil s0.1 fun v27 =>
pFieldA v27 2 fun v28 =>
pLoad1 h26 v28 fun v29 =>
pFieldA v11 1 fun v30 =>
pLoad1 h26 v30 fun v31 =>
pIdxS v29 v31 1 fun v32 =>
pLoad1 h26 v32 fun v33 =>
pInt .add v33 (.int .i64 (.ofNat 1)) fun v34 =>
pNil s0.1 fun v35 =>
pFieldA v35 16 fun v36 =>
pStore h26 v36 v34 1 fun h37 =>
pCall c (.fn 124 [] []) [s0.1, (.int .i64 (.ofNat 18)), v33] h37 fun v38 h39 =>
pLeave d2 h39 fun h40 =>
some (v38, h40)) (
i3 (s0.1, ()) h18 d2))) (
pNil s0.1 fun v41 =>
pFieldA v41 15 fun v42 =>
pLoad1 h1 v42 fun v43 =>
pNil s0.1 fun v44 =>
pFieldA v44 16 fun v45 =>
pStore h1 v45 v43 1 fun h46 =>
pNil s0.1 fun v47 =>
pFieldA v47 5 fun v48 =>
pStore h46 v48 (.int .i64 (.ofNat 3)) 1 fun h49 =>
pLeave d2 h49 fun h50 =>
some ((.int .i64 (.ofNat 0)), h50))) (a0, ()) h []
theorem S129_eq (c : CV) (a0 : AV) (h : AH) : enterK Tryz.prog NN P129 c 129 [a0] h = S129 c a0 h := by kernel_rfl
def W129 (c : CV) (l : List AV) (h : AH) : R := match l with | [a0] => S129 c a0 h | _ => none
theorem W129_ok : WOk Tryz.prog 129 W129 := by
  intro c l h r e
  unfold W129 at e
  split at e
  · exact ⟨P129, by rw [S129_eq]; exact e⟩
  · cases e
/- internal/strconv.FormatUint -/
def P130 : Pl := .z
def S130 (c : CV) (a0 a1 : AV) (h : AH) : R :=
pInt .eql a1 (.int .i64 (.ofNat 10)) fun v0 =>
pCond v0 (
pInt .lss a0 (.int .u64 (.ofNat 100)) fun v1 =>
pCond v1 (
pConvI .i64 a0 fun v2 =>
pCall c (.fn 182 [] []) [v2] h fun v3 h4 =>
some (v3, h4)) (
pBox h 232 (.agg [(.int .u8 (.ofNat 0)), (.int .u8 (.ofNat 0)), (.int .u8 (.ofNat 0)), (.int .u8 (.ofNat 0)), (.int .u8 (.ofNat 0)), (.int .u8 (.ofNat 0)), (.int .u8 (.ofNat 0)), (.int .u8 (.ofNat 0)), (.int .u8 (.ofNat 0)), (.int .u8 (.ofNat 0)), (.int .u8 (.ofNat 0)), (.int .u8 (.ofNat 0)), (.int .u8 (.ofNat 0)), (.int .u8 (.ofNat 0)), (.int .u8 (.ofNat 0)), (.int .u8 (.ofNat 0)), (.int .u8 (.ofNat 0)), (.int .u8 (.ofNat 0)), (.int .u8 (.ofNat 0)), (.int .u8 (.ofNat 0)), (.int .u8 (.ofNat 0)), (.int .u8 (.ofNat 0)), (.int .u8 (.ofNat 0)), (.int .u8 (.ofNat 0))]) fun v5 h6 =>
pCall c (.fn 183 [] []) [a0] h6 fun v7 h8 =>
pSliceP 24 1 v5 none (some v7) fun v9 =>
pCall c (.fn 184 [] []) [v9, a0] h8 fun _ h11 =>
pSliceP 24 1 v5 none (some v7) fun v12 =>
pB2S h11 v12 fun v13 =>
some (v13, h11))) (
pCall c (.fn 185 [] []) [.nils, a0, a1, (.bool false), (.bool false)] h fun v14 h15 =>
pExtract v14 0 fun _ =>
pExtract v14 1 fun v17 =>
some (v17, h15))
theorem S130_eq (c : CV) (a0 a1 : AV) (h : AH) : enterK Tryz.prog NN P130 c 130 [a0, a1] h = S130 c a0 a1 h := by kernel_rfl
def W130 (c : CV) (l : List AV) (h : AH) : R := match l with | [a0, a1] => S130 c a0 a1 h | _ => none
theorem W130_ok : WOk Tryz.prog 130 W130 := by
  intro c l h r e
  unfold W130 at e
  split at e
  · exact ⟨P130, by rw [S130_eq]; exact e⟩
  · cases e
/- (*strings.Builder).copyCheck -/
def P131 : Pl := .z
def S131 (_ : CV) (a0 : AV) (h : AH) : R :=
pNil a0 fun v0 =>
pFieldA v0 0 fun v1 =>
pLoad1 h v1 fun v2 =>
pEq .ptr false v2 .nilp fun v3 =>
pCond v3 (
none /- op -/) (
pNil a0 fun v4 =>
pFieldA v4 0 fun v5 =>
pLoad1 h v5 fun v6 =>
pEq .ptr true v6 a0 fun v7 =>
pCond v7 (
none /- code -/) (
some ((.tup []), h)))
theorem S131_eq (c : CV) (a0 : AV) (h : AH) : enterK Tryz.prog NN P131 c 131 [a0] h = S131 c a0 h := by kernel_rfl
def W131 (c : CV) (l : List AV) (h : AH) : R := match l with | [a0] => S131 c a0 h | _ => none
theorem W131_ok : WOk Tryz.prog 131 W131 := by
  intro c l h r e
  unfold W131 at e
  split at e
  · exact ⟨P131, by rw [S131_eq]; exact e⟩
  · cases e
/- (*strings.Builder).grow -/
def P132 : Pl := (.n none (.r [[4, 0]]) .z)
def S132 (_ : CV) (a0 _ : AV) (h : AH) : R :=
joinC (α := AV × AV × Unit → AH → R) (fun s0 h1 =>
pNil s0.2.1 fun v3 =>
pFieldA v3 1 fun v4 =>
pLoad1 h1 v4 fun v5 =>
pCopy h1 1 s0.1 v5 fun _ h7 =>
pNil s0.2.1 fun v8 =>
pFieldA v8 1 fun v9 =>
pStore h7 v9 s0.1 1 fun h10 =>
some ((.tup []), h10)) fun _ =>
pNil a0 fun v11 =>
pFieldA v11 1 fun v12 =>
pLoad1 h v12 fun _ =>
none /- op -/
theorem S132_eq (c : CV) (a0 a1 : AV) (h : AH) : enterK Tryz.prog NN P132 c 132 [a0, a1] h = S132 c a0 a1 h := by kernel_rfl
def W132 (c : CV) (l : List AV) (h : AH) : R := match l with | [a0, a1] => S132 c a0 a1 h | _ => none
theorem W132_ok : WOk Tryz.prog 132 W132 := by
  intro c l h r e
  unfold W132 at e
  split at e
  · exact ⟨P132, by rw [S132_eq]; exact e⟩
  · cases e
/- (*quietus/writes.Writes).find -/
def P133 : Pl := .z
def S133 (c : CV) (a0 a1 : AV) (h : AH) : R :=
pBox h 3 a1 fun v0 h1 =>
pNil a0 fun v2 =>
pFieldA v2 1 fun v3 =>
pLoad1 h1 v3 fun v4 =>
pCall c (.fn 188 [] []) [v4, (.fn 189 [] [v0])] h1 fun v5 h6 =>
some (v5, h6)
theorem S133_eq (c : CV) (a0 a1 : AV) (h : AH) : enterK Tryz.prog NN P133 c 133 [a0, a1] h = S133 c a0 a1 h := by kernel_rfl
def W133 (c : CV) (l : List AV) (h : AH) : R := match l with | [a0, a1] => S133 c a0 a1 h | _ => none
theorem W133_ok : WOk Tryz.prog 133 W133 := by
  intro c l h r e
  unfold W133 at e
  split at e
  · exact ⟨P133, by rw [S133_eq]; exact e⟩
  · cases e
/- (*quietus/levels.Levels).Room -/
def P134 : Pl := (.n none .z (.n none .z (.n none (.n none .z (.n none (.n (some [15, 14, 13, 3]) .z .z) .z)) .z)))
def S134 (c : CV) (a0 : AV) (h : AH) : R :=
pNil a0 fun v0 =>
pFieldA v0 0 fun v1 =>
pLoad1 h v1 fun v2 =>
pNil a0 fun v3 =>
pFieldA v3 1 fun v4 =>
pLoad1 h v4 fun v5 =>
pLenS v5 fun v6 =>
loopC (σ := AV × AV × AV × AV × Unit) NN (fun i10 s7 h8 d9 =>
pInt .lss s7.1 s7.2.1 fun v11 =>
pCond v11 (
pIdxS s7.2.2.1 s7.1 1 fun v12 =>
pLoad1 h8 v12 fun v13 =>
pNil v13 fun v14 =>
pFieldA v14 0 fun v15 =>
pLoad1 h8 v15 fun v16 =>
pCall c (.fn 190 [] []) [v16] h8 fun v17 h18 =>
pInt .sub s7.2.2.2.1 v17 fun v19 =>
pInt .add s7.1 (.int .i64 (.ofNat 1)) fun v20 =>
i10 (v20, s7.2.1, s7.2.2.1, v19, ()) h18 d9) (
pLeave d9 h8 fun h21 =>
some (s7.2.2.2.1, h21))) ((.int .i64 (.ofNat 0)), v6, v5, v2, ()) h []
theorem S134_eq (c : CV) (a0 : AV) (h : AH) : enterK Tryz.prog NN P134 c 134 [a0] h = S134 c a0 h := by kernel_rfl
def W134 (c : CV) (l : List AV) (h : AH) : R := match l with | [a0] => S134 c a0 h | _ => none
theorem W134_ok : WOk Tryz.prog 134 W134 := by
  intro c l h r e
  unfold W134 at e
  split at e
  · exact ⟨P134, by rw [S134_eq]; exact e⟩
  · cases e
/- quietus/code.fields -/
def P135 : Pl := (.n none .z (.n none .z (.n none (.n none .z (.n (some [4, 3, 2]) (.n (some [8, 7, 5, 4, 3, 2]) .z (.n none .z (.n (some [13, 7, 5, 4, 3, 2]) .z (.n none (.r [[4, 3, 2]]) (.n (some [18, 7, 5, 4, 3, 2]) .z (.n none (.r [[4, 3, 2]]) (.n (some [27, 7, 5, 4, 3, 2]) .z (.n none (.r [[4, 3, 2]]) .z)))))))) .z)) (.n none (.r [[4, 3, 2]]) .z))))
def S135 (_ : CV) (a0 : AV) (h : AH) : R :=
pBox h 205 (.agg [(.int .i64 (.ofNat 0)), (.int .i64 (.ofNat 0))]) fun v0 h1 =>
pBox h1 205 (.agg [(.int .i64 (.ofNat 0)), (.int .i64 (.ofNat 0))]) fun v2 h3 =>
pBox h3 205 (.agg [(.int .i64 (.ofNat 0)), (.int .i64 (.ofNat 0))]) fun v4 h5 =>
pBuild [(.int .i64 (.ofNat 0)), (.int .i64 (.ofNat 0))] [(1, 1, (.int .i64 (.ofNat 7)))] fun v6 =>
pBox h5 205 (.agg [(.int .i64 (.ofNat 0)), (.int .i64 (.ofNat 0))]) fun v7 h8 =>
pStore h8 v7 v6 2 fun h9 =>
joinC (α := AV × AV × AV × Unit → AH → List Nat → R) (fun s10 h11 d12 =>
joinC (α := AV × AV × AV × Unit → AH → R) (fun s14 h15 =>
pLeave d12 h15 fun h17 =>
pLoadN h17 s14.2.2.1 2 fun v18 =>
pLoadN h17 s14.2.1 2 fun v19 =>
pLoadN h17 s14.1 2 fun v20 =>
some ((.tup [v18, v19, v20]), h17)) fun j16 =>
pLoadN h11 s10.2.2.1 2 fun v21 =>
pLoadN h11 s10.2.1 2 fun v22 =>
pLoadN h11 s10.1 2 fun v23 =>
pStore h11 s10.2.2.1 v21 2 fun h24 =>
pStore h24 s10.2.1 v22 2 fun h25 =>
pStore h25 s10.1 v23 2 fun h26 =>
pChk s10.1 (some 2) v23 h24 h25 h11.nx <|
pChk s10.1 (some 2) v23 h11 h24 h11.nx <|
pChk s10.2.1 (some 2) v22 h11 h24 h11.nx <|
j16 (s10.1, s10.2.1, s10.2.2.1, ()) h26) fun j13 =>
joinC (α := AV × AV × AV × AV × AV × AV × Unit → AH → List Nat → R) (fun s27 h28 d29 =>
pCond s27.1 (
pLoadN h28 s27.2.2.1 2 fun v31 =>
pStore h28 s27.2.2.2.2.2.1 v31 2 fun h32 =>
j13 (s27.2.2.2.1, s27.2.2.2.2.1, s27.2.2.2.2.2.1, ()) h32 d29) (
joinC (α := AV × AV × AV × AV × AV × AV × Unit → AH → List Nat → R) (fun s33 h34 d35 =>
pCond s33.1 (
joinC (α := AV × AV × AV × Unit → AH → R) (fun s37 h38 =>
j13 (s37.1, s37.2.1, s37.2.2.1, ()) h38 d35) fun j39 =>
pLoadN h34 s33.2.2.1 2 fun v40 =>
pLoadN h34 s33.2.2.1 2 fun v41 =>
pStore h34 s33.2.2.2.2.2.1 v40 2 fun h42 =>
pStore h42 s33.2.2.2.2.1 v41 2 fun h43 =>
pChk s33.2.2.1 (some 2) v41 h34 h42 h34.nx <|
j39 (s33.2.2.2.1, s33.2.2.2.2.1, s33.2.2.2.2.2.1, ()) h43) (
joinC (α := AV × AV × AV × AV × AV × AV × Unit → AH → List Nat → R) (fun s44 h45 d46 =>
pCond s44.1 (
joinC (α := AV × AV × AV × Unit → AH → R) (fun s48 h49 =>
j13 (s48.1, s48.2.1, s48.2.2.1, ()) h49 d46) fun j50 =>
pLoadN h45 s44.2.2.1 2 fun v51 =>
pLoadN h45 s44.2.2.1 2 fun v52 =>
pLoadN h45 s44.2.2.1 2 fun v53 =>
pStore h45 s44.2.2.2.2.2.1 v51 2 fun h54 =>
pStore h54 s44.2.2.2.2.1 v52 2 fun h55 =>
pStore h55 s44.2.2.2.1 v53 2 fun h56 =>
pChk s44.2.2.1 (some 2) v53 h54 h55 h45.nx <|
pChk s44.2.2.1 (some 2) v53 h45 h54 h45.nx <|
pChk s44.2.2.1 (some 2) v52 h45 h54 h45.nx <|
j50 (s44.2.2.2.1, s44.2.2.2.2.1, s44.2.2.2.2.2.1, ()) h56) (
joinC (α := AV × AV × AV × AV × AV × AV × Unit → AH → List Nat → R) (fun s57 h58 d59 =>
pCond s57.1 (
joinC (α := AV × AV × AV × Unit → AH → R) (fun s61 h62 =>
j13 (s61.1, s61.2.1, s61.2.2.1, ()) h62 d59) fun j63 =>
pLoadN h58 s57.2.2.1 2 fun v64 =>
pLoadN h58 s57.2.2.1 2 fun v65 =>
pBuild [(.int .i64 (.ofNat 0)), (.int .i64 (.ofNat 0))] [(1, 1, (.int .i64 (.ofNat 15)))] fun v66 =>
pStore h58 s57.2.2.2.2.2.1 v64 2 fun h67 =>
pStore h67 s57.2.2.2.2.1 v65 2 fun h68 =>
pStore h68 s57.2.2.2.1 v66 2 fun h69 =>
pChk s57.2.2.1 (some 2) v65 h58 h67 h58.nx <|
j63 (s57.2.2.2.1, s57.2.2.2.2.1, s57.2.2.2.2.2.1, ()) h69) (
pInt .eql s57.2.1 (.int .i64 (.ofNat 12)) fun v70 =>
pCond v70 (
pBuild [(.int .i64 (.ofNat 0)), (.int .i64 (.ofNat 0))] [(1, 1, (.int .i64 (.ofNat 40)))] fun v71 =>
pStore h58 s57.2.2.2.1 v71 2 fun h72 =>
j13 (s57.2.2.2.1, s57.2.2.2.2.1, s57.2.2.2.2.2.1, ()) h72 d59) (
pInt .eql s57.2.1 (.int .i64 (.ofNat 13)) fun v73 =>
pCond v73 (
pLoadN h58 s57.2.2.1 2 fun v74 =>
pBuild [(.int .i64 (.ofNat 0)), (.int .i64 (.ofNat 0))] [(1, 1, (.int .i64 (.ofNat 40)))] fun v75 =>
pStore h58 s57.2.2.2.2.2.1 v74 2 fun h76 =>
pStore h76 s57.2.2.2.1 v75 2 fun h77 =>
j13 (s57.2.2.2.1, s57.2.2.2.2.1, s57.2.2.2.2.2.1, ()) h77 d59) (
pInt .eql s57.2.1 (.int .i64 (.ofNat 23)) fun v78 =>
pCond v78 (
pBuild [(.int .i64 (.ofNat 0)), (.int .i64 (.ofNat 0))] [(0, 1, (.int .i64 (.ofNat 1))), (1, 1, (.int .i64 (.ofNat 12)))] fun v79 =>
pBuild [(.int .i64 (.ofNat 0)), (.int .i64 (.ofNat 0))] [(1, 1, (.int .i64 (.ofNat 7)))] fun v80 =>
pBuild [(.int .i64 (.ofNat 0)), (.int .i64 (.ofNat 0))] [(1, 1, (.int .i64 (.ofNat 6)))] fun v81 =>
pStore h58 s57.2.2.2.2.2.1 v79 2 fun h82 =>
pStore h82 s57.2.2.2.2.1 v80 2 fun h83 =>
pStore h83 s57.2.2.2.1 v81 2 fun h84 =>
j13 (s57.2.2.2.1, s57.2.2.2.2.1, s57.2.2.2.2.2.1, ()) h84 d59) (
j13 (s57.2.2.2.1, s57.2.2.2.2.1, s57.2.2.2.2.2.1, ()) h58 d59))))) fun j60 =>
pInt .eql s44.2.1 (.int .i64 (.ofNat 8)) fun v85 =>
pCond v85 (
j60 (v85, s44.2.1, s44.2.2.1, s44.2.2.2.1, s44.2.2.2.2.1, s44.2.2.2.2.2.1, ()) h45 d46) (
pInt .eql s44.2.1 (.int .i64 (.ofNat 9)) fun v86 =>
j60 (v86, s44.2.1, s44.2.2.1, s44.2.2.2.1, s44.2.2.2.2.1, s44.2.2.2.2.2.1, ()) h45 d46))) fun j47 =>
pInt .eql s33.2.1 (.int .i64 (.ofNat 3)) fun v87 =>
pCond v87 (
j47 (v87, s33.2.1, s33.2.2.1, s33.2.2.2.1, s33.2.2.2.2.1, s33.2.2.2.2.2.1, ()) h34 d35) (
pInt .eql s33.2.1 (.int .i64 (.ofNat 4)) fun v88 =>
pCond v88 (
j47 (v88, s33.2.1, s33.2.2.1, s33.2.2.2.1, s33.2.2.2.2.1, s33.2.2.2.2.2.1, ()) h34 d35) (
pInt .eql s33.2.1 (.int .i64 (.ofNat 5)) fun v89 =>
pCond v89 (
j47 (v89, s33.2.1, s33.2.2.1, s33.2.2.2.1, s33.2.2.2.2.1, s33.2.2.2.2.2.1, ()) h34 d35) (
pInt .eql s33.2.1 (.int .i64 (.ofNat 6)) fun v90 =>
pCond v90 (
j47 (v90, s33.2.1, s33.2.2.1, s33.2.2.2.1, s33.2.2.2.2.1, s33.2.2.2.2.2.1, ()) h34 d35) (
pInt .eql s33.2.1 (.int .i64 (.ofNat 7)) fun v91 =>
j47 (v91, s33.2.1, s33.2.2.1, s33.2.2.2.1, s33.2.2.2.2.1, s33.2.2.2.2.2.1, ()) h34 d35)))))) fun j36 =>
pInt .eql s27.2.1 (.int .i64 (.ofNat 2)) fun v92 =>
pCond v92 (
j36 (v92, s27.2.1, s27.2.2.1, s27.2.2.2.1, s27.2.2.2.2.1, s27.2.2.2.2.2.1, ()) h28 d29) (
pInt .eql s27.2.1 (.int .i64 (.ofNat 10)) fun v93 =>
j36 (v93, s27.2.1, s27.2.2.1, s27.2.2.2.1, s27.2.2.2.2.1, s27.2.2.2.2.2.1, ()) h28 d29))) fun j30 =>
pInt .eql a0 (.int .i64 (.ofNat 1)) fun v94 =>
pCond v94 (
j30 (v94, a0, v7, v4, v2, v0, ()) h9 []) (
pInt .eql a0 (.int .i64 (.ofNat 11)) fun v95 =>
pCond v95 (
j30 (v95, a0, v7, v4, v2, v0, ()) h9 []) (
pInt .eql a0 (.int .i64 (.ofNat 21)) fun v96 =>
j30 (v96, a0, v7, v4, v2, v0, ()) h9 []))
theorem S135_eq (c : CV) (a0 : AV) (h : AH) : enterK Tryz.prog NN P135 c 135 [a0] h = S135 c a0 h := by kernel_rfl
def W135 (c : CV) (l : List AV) (h : AH) : R := match l with | [a0] => S135 c a0 h | _ => none
theorem W135_ok : WOk Tryz.prog 135 W135 := by
  intro c l h r e
  unfold W135 at e
  split at e
  · exact ⟨P135, by rw [S135_eq]; exact e⟩
  · cases e
/- quietus/code.Name -/
def P136 : Pl := .z
def S136 (c : CV) (a0 : AV) (h : AH) : R :=
pCall c (.fn 192 [] []) [] h fun v0 h1 =>
pCall c (.fn 191 [] []) [v0, a0] h1 fun v2 h3 =>
some (v2, h3)
theorem S136_eq (c : CV) (a0 : AV) (h : AH) : enterK Tryz.prog NN P136 c 136 [a0] h = S136 c a0 h := by kernel_rfl
def W136 (c : CV) (l : List AV) (h : AH) : R := match l with | [a0] => S136 c a0 h | _ => none
theorem W136_ok : WOk Tryz.prog 136 W136 := by
  intro c l h r e
  unfold W136 at e
  split at e
  · exact ⟨P136, by rw [S136_eq]; exact e⟩
  · cases e
/- (quietus/code.field).fits -/
def P137 : Pl := (.n none .z (.n none (.r [[13, 9]]) .z))
def S137 (_ : CV) (a0 a1 : AV) (h : AH) : R :=
pBox h 205 a0 fun v0 h1 =>
pFieldA v0 0 fun v2 =>
pLoad1 h1 v2 fun v3 =>
pInt .geq a1 v3 fun v4 =>
joinC (α := AV × AV × Unit → AH → R) (fun s5 h6 =>
pPick s5.2.1 s5.1 (.bool false) fun v8 =>
some (v8, h6)) fun j7 =>
pWant v4 true (
pFieldA v0 1 fun v9 =>
pLoad1 h1 v9 fun v10 =>
pInt .leq a1 v10 fun v11 =>
j7 (v11, v4, ()) h1) (
j7 (.undef, v4, ()) h1)
theorem S137_eq (c : CV) (a0 a1 : AV) (h : AH) : enterK Tryz.prog NN P137 c 137 [a0, a1] h = S137 c a0 a1 h := by kernel_rfl
def W137 (c : CV) (l : List AV) (h : AH) : R := match l with | [a0, a1] => S137 c a0 a1 h | _ => none
theorem W137_ok : WOk Tryz.prog 137 W137 := by
  intro c l h r e
  unfold W137 at e
  split at e
  · exact ⟨P137, by rw [S137_eq]; exact e⟩
  · cases e
end
end Go.Proofs.YtcmjgcfkhommkaaGreatDoor
