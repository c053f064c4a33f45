/- Printed by a program of mine: the bodies of the program's functions aa terms of the primitives of the abstract executor, each shown equal by the kernel. -/
import Derived.Test.YtlkmghghgmagaaaGreatDoorProg
import Derived.Test.YtlkmghghgmagaaaGreatDoorAe1
import Derived.KernelRfl
namespace Go.Proofs.YtlkmghghgmagaaaGreatDoor
open Go Go.Ae
set_option maxRecDepth 100000
noncomputable section
/- quietus/quietuslaw27.ThreadRuns -/
def P3 : Pl := (.n none .z (.n none .z (.n none .z (.n none .z (.n none .z (.n none (.n none (.r [[29, 27, 4, 2]]) .z) (.n none (.n none .z (.n none (.n (some [5, 4, 2]) (.n none .z (.n none (.n none (.n none .z (.n none (.n none (.r [[45, 42, 6, 5, 4, 2]]) .z) .z)) .z) .z)) .z) .z)) (.n none .z (.n none .z (.n none (.r [[67, 64, 11, 10, 4], [72, 69, 11, 10, 4], [79, 74, 10, 4], [84, 81, 10, 4], [91, 86, 10, 4], [98, 93, 10, 4], [105, 100, 4], [111, 107, 4], [116, 113]]) .z))))))))))
def S3 (c : CV) (h : AH) : R :=
pBuild [(.int .i64 (.ofNat 0)), (.int .i64 (.ofNat 0)), (.int .i64 (.ofNat 0)), (.int .i64 (.ofNat 0)), (.int .u64 (.ofNat 0))] [(0, 1, (.int .i64 (.ofNat 40))), (1, 1, (.int .i64 (.ofNat 4))), (3, 1, (.int .i64 (.ofNat 1))), (4, 1, (.int .u64 (.ofNat 5)))] fun v0 =>
pBuild [(.int .i64 (.ofNat 0)), (.int .i64 (.ofNat 0)), (.int .i64 (.ofNat 0)), (.int .i64 (.ofNat 0)), (.int .u64 (.ofNat 0)), (.int .i64 (.ofNat 0)), (.int .i64 (.ofNat 0)), (.int .i64 (.ofNat 0))] [(0, 5, v0), (7, 1, (.int .i64 (.ofNat 9)))] fun v1 =>
pBox h 26 (.agg [(.int .i64 (.ofNat 0)), (.int .i64 (.ofNat 0)), (.int .i64 (.ofNat 0)), (.int .i64 (.ofNat 0)), (.int .u64 (.ofNat 0)), (.int .i64 (.ofNat 0)), (.int .i64 (.ofNat 0)), (.int .i64 (.ofNat 0))]) fun v2 h3 =>
pStore h3 v2 v1 8 fun h4 =>
pFieldA v2 0 fun v5 =>
pLoadN h4 v5 5 fun v6 =>
pCall c (.fn 4 [] []) [v6] h4 fun v7 h8 =>
pBuild [(.int .i64 (.ofNat 0)), (.int .i64 (.ofNat 0)), (.int .i64 (.ofNat 0)), (.int .i64 (.ofNat 0)), (.int .u64 (.ofNat 0))] [(0, 1, (.int .i64 (.ofNat 1))), (1, 1, (.int .i64 (.ofNat 1))), (4, 1, (.int .u64 (.ofNat 1)))] fun v9 =>
pBuildS h8 30 [(.int .i64 (.ofNat 0)), (.int .i64 (.ofNat 0)), (.int .i64 (.ofNat 0)), (.int .i64 (.ofNat 0)), (.int .u64 (.ofNat 0))] 1 [(0, 5, v9)] fun v10 h11 =>
pBuild [.nils] [(0, 1, v10)] fun v12 =>
pBox h11 33 (.agg [.nils]) fun v13 h14 =>
pStore h14 v13 v12 1 fun h15 =>
pLoadN h15 v2 8 fun v16 =>
pLoadN h15 v13 1 fun v17 =>
pLoadN h15 v13 1 fun v18 =>
pBuildS h15 33 [.nils] 2 [(0, 1, v17), (1, 1, v18)] fun v19 h20 =>
pCall c (.fn 5 [] []) [(.int .i64 (.ofNat 0)), v16, v19] h20 fun v21 h22 =>
pEq .ptr false v7 .nilp fun v23 =>
joinC (α := AV × AV × AV × AV × Unit → AH → R) (fun s24 h25 =>
pPick s24.2.1 (.bool true) s24.1 fun v27 =>
pCond v27 (
some ((.bool false), h25)) (
loopC (σ := AV × AV × AV × Unit) NN (fun i31 s28 h29 d30 =>
pInt .leq s28.1 (.int .i64 (.ofNat 8)) fun v32 =>
pCond v32 (
pCall c (.fn 6 [] []) [s28.2.1] h29 fun v33 h34 =>
pExtract v33 0 fun v35 =>
pExtract v33 1 fun v36 =>
pBox h34 40 (.agg [(.int .i64 (.ofNat 0)), (.int .i64 (.ofNat 0)), (.int .u64 (.ofNat 0)), (.int .u64 (.ofNat 0)), (.int .u64 (.ofNat 0)), (.bool false), (.int .i64 (.ofNat 0)), (.int .u64 (.ofNat 0)), (.bool false), (.int .i64 (.ofNat 0))]) fun v37 h38 =>
pStore h38 v37 v35 10 fun h39 =>
pUn .not v36 fun v40 =>
joinC (α := AV × AV × AV × AV × AV × AV × Unit → AH → R) (fun s41 h42 =>
pPick s41.2.1 (.bool true) s41.1 fun v44 =>
pCond v44 (
pLeave d30 h42 fun h45 =>
some ((.bool false), h45)) (
pLoadN h42 s41.2.2.1 10 fun v46 =>
pCall c (.fn 9 [] []) [s41.2.2.2.2.2.1, v46] h42 fun v47 h48 =>
pCall c (.fn 8 [] []) [s41.2.2.2.2.1, v47, (.int .u8 (.ofNat 0)), s41.2.2.2.1] h48 fun _ h50 =>
pInt .add s41.2.2.2.1 (.int .i64 (.ofNat 1)) fun v51 =>
i31 (v51, s41.2.2.2.2.1, s41.2.2.2.2.2.1, ()) h50 d30)) fun j43 =>
pWant v40 false (
pCall c (.fn 7 [] []) [s28.2.1] h39 fun v52 h53 =>
pInt .neq v52 (.int .i64 (.ofNat 1)) fun v54 =>
j43 (v54, v40, v37, s28.1, s28.2.1, s28.2.2.1, ()) h53) (
j43 (.undef, v40, v37, s28.1, s28.2.1, s28.2.2.1, ()) h39)) (
pCall c (.fn 6 [] []) [s28.2.1] h29 fun v55 h56 =>
pExtract v55 0 fun v57 =>
pExtract v55 1 fun v58 =>
pBox h56 40 (.agg [(.int .i64 (.ofNat 0)), (.int .i64 (.ofNat 0)), (.int .u64 (.ofNat 0)), (.int .u64 (.ofNat 0)), (.int .u64 (.ofNat 0)), (.bool false), (.int .i64 (.ofNat 0)), (.int .u64 (.ofNat 0)), (.bool false), (.int .i64 (.ofNat 0))]) fun v59 h60 =>
pStore h60 v59 v57 10 fun h61 =>
pCall c (.fn 10 [] []) [s28.2.1] h61 fun v62 h63 =>
pCall c (.fn 11 [] []) [s28.2.1] h63 fun v64 h65 =>
pUn .not v58 fun v66 =>
joinC (α := AV × AV × AV × AV × AV × Unit → AH → R) (fun s67 h68 =>
pPick s67.2.1 s67.1 (.bool false) fun v70 =>
joinC (α := AV × AV × AV × AV × AV × Unit → AH → R) (fun s71 h72 =>
pPick s71.2.1 s71.1 (.bool false) fun v74 =>
joinC (α := AV × AV × AV × AV × Unit → AH → R) (fun s75 h76 =>
pPick s75.2.1 s75.1 (.bool false) fun v78 =>
joinC (α := AV × AV × AV × AV × Unit → AH → R) (fun s79 h80 =>
pPick s79.2.1 s79.1 (.bool false) fun v82 =>
joinC (α := AV × AV × AV × AV × Unit → AH → R) (fun s83 h84 =>
pPick s83.2.1 s83.1 (.bool false) fun v86 =>
joinC (α := AV × AV × AV × AV × Unit → AH → R) (fun s87 h88 =>
pPick s87.2.1 s87.1 (.bool false) fun v90 =>
joinC (α := AV × AV × AV × Unit → AH → R) (fun s91 h92 =>
pPick s91.2.1 s91.1 (.bool false) fun v94 =>
joinC (α := AV × AV × AV × Unit → AH → R) (fun s95 h96 =>
pPick s95.2.1 s95.1 (.bool false) fun v98 =>
joinC (α := AV × AV × Unit → AH → R) (fun s99 h100 =>
pPick s99.2.1 s99.1 (.bool false) fun v102 =>
pLeave d30 h100 fun h103 =>
some (v102, h103)) fun j101 =>
pWant v98 true (
pCall c (.fn 13 [] []) [s95.2.2.1] h96 fun v104 h105 =>
pUn .not v104 fun v106 =>
j101 (v106, v98, ()) h105) (
j101 (.undef, v98, ()) h96)) fun j97 =>
pWant v94 true (
pCall c (.fn 12 [] []) [s91.2.2.1] h92 fun v107 h108 =>
pLenS v107 fun v109 =>
pInt .eql v109 (.int .i64 (.ofNat 0)) fun v110 =>
j97 (v110, v94, s91.2.2.1, ()) h108) (
j97 (.undef, v94, s91.2.2.1, ()) h92)) fun j93 =>
pWant v90 true (
pIdxS s87.2.2.1 (.int .i64 (.ofNat 1)) 14 fun v111 =>
pFieldA v111 9 fun v112 =>
pLoad1 h88 v112 fun v113 =>
pInt .eql v113 (.int .i64 (.ofNat 8)) fun v114 =>
j93 (v114, v90, s87.2.2.2.1, ()) h88) (
j93 (.undef, v90, s87.2.2.2.1, ()) h88)) fun j89 =>
pWant v86 true (
pIdxS s83.2.2.1 (.int .i64 (.ofNat 1)) 14 fun v115 =>
pFieldA v115 8 fun v116 =>
pLoad1 h84 v116 fun v117 =>
pInt .eql v117 (.int .i64 (.ofNat 6)) fun v118 =>
j89 (v118, v86, s83.2.2.1, s83.2.2.2.1, ()) h84) (
j89 (.undef, v86, s83.2.2.1, s83.2.2.2.1, ()) h84)) fun j85 =>
pWant v82 true (
pIdxS s79.2.2.1 (.int .i64 (.ofNat 1)) 14 fun v119 =>
pFieldA v119 1 fun v120 =>
pLoad1 h80 v120 fun v121 =>
pInt .eql v121 (.int .i64 (.ofNat 1)) fun v122 =>
j85 (v122, v82, s79.2.2.1, s79.2.2.2.1, ()) h80) (
j85 (.undef, v82, s79.2.2.1, s79.2.2.2.1, ()) h80)) fun j81 =>
pWant v78 true (
pLenS s75.2.2.1 fun v123 =>
pInt .eql v123 (.int .i64 (.ofNat 2)) fun v124 =>
j81 (v124, v78, s75.2.2.1, s75.2.2.2.1, ()) h76) (
j81 (.undef, v78, s75.2.2.1, s75.2.2.2.1, ()) h76)) fun j77 =>
pWant v74 true (
pIdxS s71.2.2.1 (.int .i64 (.ofNat 1)) 4 fun v125 =>
pLoadN h72 v125 4 fun v126 =>
pBuild [(.int .i64 (.ofNat 0)), (.int .i64 (.ofNat 0)), (.str []), (.int .u64 (.ofNat 0))] [(0, 1, (.int .i64 (.ofNat 2))), (3, 1, (.int .u64 (.ofNat 5)))] fun v127 =>
pEqS [(.int, 0), (.int, 1), (.str, 2), (.int, 3)] false v126 v127 fun v128 =>
j77 (v128, v74, s71.2.2.2.1, s71.2.2.2.2.1, ()) h72) (
j77 (.undef, v74, s71.2.2.2.1, s71.2.2.2.2.1, ()) h72)) fun j73 =>
pWant v70 true (
pLenS s67.2.2.1 fun v129 =>
pInt .eql v129 (.int .i64 (.ofNat 2)) fun v130 =>
j73 (v130, v70, s67.2.2.1, s67.2.2.2.1, s67.2.2.2.2.1, ()) h68) (
j73 (.undef, v70, s67.2.2.1, s67.2.2.2.1, s67.2.2.2.2.1, ()) h68)) fun j69 =>
pWant v66 true (
pCall c (.fn 7 [] []) [s28.2.1] h65 fun v131 h132 =>
pInt .eql v131 (.int .i64 (.ofNat 6)) fun v133 =>
j69 (v133, v66, v64, v62, s28.2.1, ()) h132) (
j69 (.undef, v66, v64, v62, s28.2.1, ()) h65))) ((.int .i64 (.ofNat 1)), s24.2.2.1, s24.2.2.2.1, ()) h25 [])) fun j26 =>
pWant v23 false (
pEq .ptr false v21 .nilp fun v134 =>
j26 (v134, v23, v21, v7, ()) h22) (
j26 (.undef, v23, v21, v7, ()) h22)
theorem S3_eq (c : CV) (h : AH) : enterK Tryz.prog NN P3 c 3 [] h = S3 c h := by kernel_rfl
def W3 (c : CV) (l : List AV) (h : AH) : R := match l with | [] => S3 c h | _ => none
theorem W3_ok : WOk Tryz.prog 3 W3 := by
  intro c l h r e
  unfold W3 at e
  split at e
  · exact ⟨P3, by rw [S3_eq]; exact e⟩
  · cases e
/- quietus/mem.New -/
def P4 : Pl := (.n none .z (.n none .z (.n none (.r [[2]]) .z)))
def S4 (c : CV) (a0 : AV) (h : AH) : R :=
pBox h 24 a0 fun v0 h1 =>
pLoadN h1 v0 5 fun v2 =>
pCall c (.fn 14 [] []) [v2] h1 fun v3 h4 =>
pStore h4 v0 v3 5 fun h5 =>
joinC (α := AV × Unit → AH → R) (fun s6 h7 =>
some (s6.1, h7)) fun j8 =>
pLoadN h5 v0 5 fun v9 =>
pFieldA v0 0 fun v10 =>
pLoad1 h5 v10 fun v11 =>
pCall c (.fn 15 [] []) [v11] h5 fun v12 h13 =>
pFieldA v0 1 fun v14 =>
pLoad1 h13 v14 fun v15 =>
pFieldA v0 2 fun v16 =>
pLoad1 h13 v16 fun v17 =>
pCall c (.fn 16 [] []) [v15, v17] h13 fun v18 h19 =>
pFieldA v0 4 fun v20 =>
pLoad1 h19 v20 fun v21 =>
pCall c (.fn 17 [] []) [v21] h19 fun v22 h23 =>
pFieldA v0 3 fun v24 =>
pLoad1 h23 v24 fun v25 =>
pCall c (.fn 18 [] []) [v25] h23 fun v26 h27 =>
pBuild [(.int .i64 (.ofNat 0)), (.int .i64 (.ofNat 0)), (.int .i64 (.ofNat 0)), (.int .i64 (.ofNat 0)), (.int .u64 (.ofNat 0)), .nilp, .nilp, .nilp, .nilp, (.int .i64 (.ofNat 0))] [(0, 5, v9), (5, 1, v12), (6, 1, v18), (7, 1, v22), (8, 1, v26)] fun v28 =>
pBox h27 72 v28 fun v29 h30 =>
pChk v24 none v25 h19 h23 h5.nx <|
pChk v24 none v25 h13 h19 h5.nx <|
pChk v24 none v25 h5 h13 h5.nx <|
pChk v20 none v21 h13 h19 h5.nx <|
pChk v20 none v21 h5 h13 h5.nx <|
pChk v16 none v17 h5 h13 h5.nx <|
pChk v14 none v15 h5 h13 h5.nx <|
pChk v0 (some 5) v9 h23 h27 h5.nx <|
pChk v0 (some 5) v9 h19 h23 h5.nx <|
pChk v0 (some 5) v9 h13 h19 h5.nx <|
pChk v0 (some 5) v9 h5 h13 h5.nx <|
j8 (v29, ()) h30
theorem S4_eq (c : CV) (a0 : AV) (h : AH) : enterK Tryz.prog NN P4 c 4 [a0] h = S4 c a0 h := by kernel_rfl
def W4 (c : CV) (l : List AV) (h : AH) : R := match l with | [a0] => S4 c a0 h | _ => none
theorem W4_ok : WOk Tryz.prog 4 W4 := by
  intro c l h r e
  unfold W4 at e
  split at e
  · exact ⟨P4, by rw [S4_eq]; exact e⟩
  · cases e
/- quietus/thread.New -/
def P5 : Pl := (.n none .z (.n none .z (.n none (.r [[7, 2]]) (.n none (.n none .z (.n none (.n (some [29, 28, 27, 7]) (.n none .z (.n none .z (.n none (.n none (.n none .z (.r [[29, 28, 27, 7]])) .z) .z))) .z) .z)) .z))))
def S5 (c : CV) (a0 a1 a2 : AV) (h : AH) : R :=
pBox h 26 a1 fun v0 h1 =>
pLoadN h1 v0 8 fun v2 =>
pCall c (.fn 19 [] []) [v2] h1 fun v3 h4 =>
pStore h4 v0 v3 8 fun h5 =>
joinC (α := AV × AV × Unit → AH → R) (fun s6 h7 =>
pLenS s6.2.1 fun v9 =>
pMM false [v9, (.int .i64 (.ofNat 6))] fun v10 =>
pSlice h7 33 1 s6.2.1 none (some v10) fun v11 =>
pLenS v11 fun v12 =>
loopC (σ := AV × AV × AV × AV × Unit) NN (fun i16 s13 h14 d15 =>
pInt .lss s13.1 s13.2.1 fun v17 =>
pCond v17 (
pIdxS s13.2.2.1 s13.1 1 fun v18 =>
pLoadN h14 v18 1 fun v19 =>
pBox h14 33 (.agg [.nils]) fun v20 h21 =>
pStore h21 v20 v19 1 fun h22 =>
joinC (α := AV × AV × AV × AV × Unit → AH → R) (fun s23 h24 =>
pInt .add s23.1 (.int .i64 (.ofNat 1)) fun v26 =>
i16 (v26, s23.2.1, s23.2.2.1, s23.2.2.2.1, ()) h24 d15) fun j25 =>
pNil s13.2.2.2.1 fun v27 =>
pFieldA v27 9 fun v28 =>
pLoad1 h22 v28 fun v29 =>
pFieldA v20 0 fun v30 =>
pLoad1 h22 v30 fun v31 =>
pCall c (.fn 21 [] []) [v31] h22 fun v32 h33 =>
pBuild [.nils] [(0, 1, v32)] fun v34 =>
pBuildS h33 33 [.nils] 1 [(0, 1, v34)] fun v35 h36 =>
pAppend h36 33 1 v29 v35 fun v37 h38 =>
pNil s13.2.2.2.1 fun v39 =>
pFieldA v39 9 fun v40 =>
pStore h38 v40 v37 1 fun h41 =>
pChk v28 none v29 h22 h33 h22.nx <|
j25 (s13.1, s13.2.1, s13.2.2.1, s13.2.2.2.1, ()) h41) (
pCall c (.fn 22 [] []) [s13.2.2.2.1] h14 fun _ h43 =>
pLeave d15 h43 fun h44 =>
some (s13.2.2.2.1, h44))) ((.int .i64 (.ofNat 0)), v12, v11, s6.1, ()) h7 []) fun j8 =>
pFieldA v0 0 fun v45 =>
pFieldA v45 3 fun v46 =>
pLoad1 h5 v46 fun v47 =>
pInt .sub v47 (.int .i64 (.ofNat 1)) fun v48 =>
pMM false [a0, v48] fun v49 =>
pMM true [(.int .i64 (.ofNat 0)), v49] fun v50 =>
pLoadN h5 v0 8 fun v51 =>
pCall c (.fn 20 [] []) [] h5 fun v52 h53 =>
pBuild [(.int .i64 (.ofNat 0)), (.int .i64 (.ofNat 0)), (.int .i64 (.ofNat 0)), (.int .i64 (.ofNat 0)), (.int .i64 (.ofNat 0)), (.int .u64 (.ofNat 0)), (.int .i64 (.ofNat 0)), (.int .i64 (.ofNat 0)), (.int .i64 (.ofNat 0)), .nils, (.int .i64 (.ofNat 0)), (.int .i64 (.ofNat 0)), (.bool false), .nils, (.int .i64 (.ofNat 0)), (.int .i64 (.ofNat 0)), .nilp, (.int .i64 (.ofNat 0)), (.bool false), .nils, .nils, .nilp, .nils, (.int .i64 (.ofNat 0)), (.int .u64 (.ofNat 0)), (.bool false), (.int .i64 (.ofNat 0))] [(0, 1, v50), (1, 8, v51), (21, 1, v52), (10, 1, (.int .i64 (.negSucc 0)))] fun v54 =>
pBox h53 81 v54 fun v55 h56 =>
pChk v0 (some 8) v51 h5 h53 h5.nx <|
pChk v46 none v47 h5 h53 h5.nx <|
j8 (v55, a2, ()) h56
theorem S5_eq (c : CV) (a0 a1 a2 : AV) (h : AH) : enterK Tryz.prog NN P5 c 5 [a0, a1, a2] h = S5 c a0 a1 a2 h := by kernel_rfl
def W5 (c : CV) (l : List AV) (h : AH) : R := match l with | [a0, a1, a2] => S5 c a0 a1 a2 h | _ => none
theorem W5_ok : WOk Tryz.prog 5 W5 := by
  intro c l h r e
  unfold W5 at e
  split at e
  · exact ⟨P5, by rw [S5_eq]; exact e⟩
  · cases e
/- (*quietus/thread.Thread).Next -/
def P6 : Pl := .z
def S6 (c : CV) (a0 : AV) (h : AH) : R :=
pBox h 40 (.agg [(.int .i64 (.ofNat 0)), (.int .i64 (.ofNat 0)), (.int .u64 (.ofNat 0)), (.int .u64 (.ofNat 0)), (.int .u64 (.ofNat 0)), (.bool false), (.int .i64 (.ofNat 0)), (.int .u64 (.ofNat 0)), (.bool false), (.int .i64 (.ofNat 0))]) fun v0 h1 =>
pNil a0 fun v2 =>
pFieldA v2 11 fun v3 =>
pLoad1 h1 v3 fun v4 =>
pInt .eql v4 (.int .i64 (.ofNat 1)) fun v5 =>
pCond v5 (
pNil a0 fun v6 =>
pFieldA v6 16 fun v7 =>
pLoad1 h1 v7 fun v8 =>
pCall c (.fn 23 [] []) [v8] h1 fun v9 h10 =>
pExtract v9 0 fun v11 =>
pExtract v9 1 fun v12 =>
pStore h10 v0 v11 10 fun h13 =>
pLoadN h13 v0 10 fun v14 =>
some ((.tup [v14, v12]), h13)) (
pInt .eql v4 (.int .i64 (.ofNat 2)) fun v15 =>
pCond v15 (
pNil a0 fun v16 =>
pFieldA v16 23 fun v17 =>
pLoad1 h1 v17 fun v18 =>
pBuild [(.int .i64 (.ofNat 0)), (.int .i64 (.ofNat 0)), (.int .u64 (.ofNat 0)), (.int .u64 (.ofNat 0)), (.int .u64 (.ofNat 0)), (.bool false), (.int .i64 (.ofNat 0)), (.int .u64 (.ofNat 0)), (.bool false), (.int .i64 (.ofNat 0))] [(0, 1, (.int .i64 (.ofNat 8))), (1, 1, v18)] fun v19 =>
pStore h1 v0 v19 10 fun h20 =>
pLoadN h20 v0 10 fun v21 =>
some ((.tup [v21, (.bool true)]), h20)) (
pInt .eql v4 (.int .i64 (.ofNat 5)) fun v22 =>
pCond v22 (
pNil a0 fun v23 =>
pFieldA v23 22 fun v24 =>
pLoad1 h1 v24 fun v25 =>
pLenS v25 fun v26 =>
pBuild [(.int .i64 (.ofNat 0)), (.int .i64 (.ofNat 0)), (.int .u64 (.ofNat 0)), (.int .u64 (.ofNat 0)), (.int .u64 (.ofNat 0)), (.bool false), (.int .i64 (.ofNat 0)), (.int .u64 (.ofNat 0)), (.bool false), (.int .i64 (.ofNat 0))] [(0, 1, (.int .i64 (.ofNat 8))), (1, 1, v26)] fun v27 =>
pStore h1 v0 v27 10 fun h28 =>
pLoadN h28 v0 10 fun v29 =>
some ((.tup [v29, (.bool true)]), h28)) (
pBuild [(.int .i64 (.ofNat 0)), (.int .i64 (.ofNat 0)), (.int .u64 (.ofNat 0)), (.int .u64 (.ofNat 0)), (.int .u64 (.ofNat 0)), (.bool false), (.int .i64 (.ofNat 0)), (.int .u64 (.ofNat 0)), (.bool false), (.int .i64 (.ofNat 0))] [] fun v30 =>
pStore h1 v0 v30 10 fun h31 =>
pLoadN h31 v0 10 fun v32 =>
some ((.tup [v32, (.bool false)]), h31))))
theorem S6_eq (c : CV) (a0 : AV) (h : AH) : enterK Tryz.prog NN P6 c 6 [a0] h = S6 c a0 h := by kernel_rfl
def W6 (c : CV) (l : List AV) (h : AH) : R := match l with | [a0] => S6 c a0 h | _ => none
theorem W6_ok : WOk Tryz.prog 6 W6 := by
  intro c l h r e
  unfold W6 at e
  split at e
  · exact ⟨P6, by rw [S6_eq]; exact e⟩
  · cases e
/- (*quietus/thread.Thread).State -/
def P7 : Pl := .z
def S7 (_ : CV) (a0 : AV) (h : AH) : R :=
pNil a0 fun v0 =>
pFieldA v0 11 fun v1 =>
pLoad1 h v1 fun v2 =>
some (v2, h)
theorem S7_eq (c : CV) (a0 : AV) (h : AH) : enterK Tryz.prog NN P7 c 7 [a0] h = S7 c a0 h := by kernel_rfl
def W7 (c : CV) (l : List AV) (h : AH) : R := match l with | [a0] => S7 c a0 h | _ => none
theorem W7_ok : WOk Tryz.prog 7 W7 := by
  intro c l h r e
  unfold W7 at e
  split at e
  · exact ⟨P7, by rw [S7_eq]; exact e⟩
  · cases e
/- (*quietus/thread.Thread).Tell -/
def P8 : Pl := (.n none .z (.n none .z (.n (some []) (.n none .z (.n none (.n none .z (.n none .z (.n (some [3, 2, 0]) (.n none .z (.n none (.r [[43, 41, 3, 2, 0]]) .z)) .z))) (.n none .z (.n none .z (.n none .z (.n none (.n (some [5, 0]) .z .z) .z)))))) .z)))
def S8 (c : CV) (a0 a1 a2 a3 : AV) (h : AH) : R :=
pBox h 47 a1 fun v0 h1 =>
pNil a0 fun v2 =>
pFieldA v2 11 fun v3 =>
pLoad1 h1 v3 fun v4 =>
joinC (α := Unit → AH → List Nat → R) (fun _ h6 d7 =>
pLeave d7 h6 fun h9 =>
some ((.tup []), h9)) fun j8 =>
pInt .eql v4 (.int .i64 (.ofNat 1)) fun v10 =>
pCond v10 (
pNil a0 fun v11 =>
pFieldA v11 16 fun v12 =>
pLoad1 h1 v12 fun v13 =>
pCall c (.fn 24 [] []) [v13] h1 fun v14 h15 =>
pExtract v14 0 fun _ =>
pExtract v14 1 fun v17 =>
pNil a0 fun v18 =>
pFieldA v18 16 fun v19 =>
pLoad1 h15 v19 fun v20 =>
pLoadN h15 v0 6 fun v21 =>
pCall c (.fn 25 [] []) [v20, v21] h15 fun _ h23 =>
joinC (α := AV × AV × AV × Unit → AH → List Nat → R) (fun s24 h25 d26 =>
pNil s24.2.2.1 fun v28 =>
pFieldA v28 16 fun v29 =>
pLoad1 h25 v29 fun v30 =>
pCall c (.fn 26 [] []) [v30] h25 fun v31 h32 =>
pInt .neq v31 (.int .i64 (.ofNat 0)) fun v33 =>
pCond v33 (
pCall c (.fn 27 [] []) [s24.2.2.1, s24.2.1, s24.1] h32 fun _ h35 =>
j8 (()) h35 d26) (
j8 (()) h32 d26)) fun j27 =>
pNil a0 fun v36 =>
pFieldA v36 16 fun v37 =>
pLoad1 h23 v37 fun v38 =>
pCall c (.fn 24 [] []) [v38] h23 fun v39 h40 =>
pExtract v39 0 fun _ =>
pExtract v39 1 fun v42 =>
joinC (α := AV × AV × AV × AV × AV × Unit → AH → R) (fun s43 h44 =>
pPick s43.2.1 s43.1 (.bool false) fun v46 =>
pCond v46 (
pNil s43.2.2.2.2.1 fun v47 =>
pFieldA v47 17 fun v48 =>
pStore h44 v48 s43.2.2.1 1 fun h49 =>
j27 (s43.2.2.1, s43.2.2.2.1, s43.2.2.2.2.1, ()) h49 []) (
j27 (s43.2.2.1, s43.2.2.2.1, s43.2.2.2.2.1, ()) h44 [])) fun j45 =>
pWant v42 true (
pUn .not v17 fun v50 =>
j45 (v50, v42, a3, a2, a0, ()) h40) (
j45 (.undef, v42, a3, a2, a0, ()) h40)) (
pInt .eql v4 (.int .i64 (.ofNat 2)) fun v51 =>
pCond v51 (
pLoadN h1 v0 6 fun v52 =>
pCall c (.fn 28 [] []) [a0, v52, a2] h1 fun _ h54 =>
j8 (()) h54 []) (
pInt .eql v4 (.int .i64 (.ofNat 5)) fun v55 =>
pCond v55 (
joinC (α := AV × AV × Unit → AH → List Nat → R) (fun s56 h57 d58 =>
pFieldA s56.1 0 fun v60 =>
pLoad1 h57 v60 fun v61 =>
pCall c (.fn 29 [] []) [s56.2.1, v61] h57 fun _ h63 =>
j8 (()) h63 d58) fun j59 =>
pFieldA v0 5 fun v64 =>
pLoad1 h1 v64 fun v65 =>
pInt .neq v65 (.int .i64 (.ofNat 0)) fun v66 =>
pCond v66 (
pFieldA v0 0 fun v67 =>
pStore h1 v67 (.int .u64 (.ofNat 0)) 1 fun h68 =>
j59 (v0, a0, ()) h68 []) (
j59 (v0, a0, ()) h1 [])) (
j8 (()) h1 [])))
theorem S8_eq (c : CV) (a0 a1 a2 a3 : AV) (h : AH) : enterK Tryz.prog NN P8 c 8 [a0, a1, a2, a3] h = S8 c a0 a1 a2 a3 h := by kernel_rfl
def W8 (c : CV) (l : List AV) (h : AH) : R := match l with | [a0, a1, a2, a3] => S8 c a0 a1 a2 a3 h | _ => none
theorem W8_ok : WOk Tryz.prog 8 W8 := by
  intro c l h r e
  unfold W8 at e
  split at e
  · exact ⟨P8, by rw [S8_eq]; exact e⟩
  · cases e
/- (*quietus/mem.Mem).Do -/
def P9 : Pl := (.n none .z (.n none .z (.n (some [5, 4]) .z .z)))
def S9 (c : CV) (a0 a1 : AV) (h : AH) : R :=
pBox h 40 a1 fun v0 h1 =>
pBox h1 47 (.agg [(.int .u64 (.ofNat 0)), (.int .u64 (.ofNat 0)), (.bool false), (.int .i64 (.ofNat 0)), (.bool false), (.int .i64 (.ofNat 0))]) fun v2 h3 =>
pLoadN h3 v0 10 fun v4 =>
pCall c (.fn 30 [] []) [a0, v4] h3 fun v5 h6 =>
pBox h6 47 (.agg [(.int .u64 (.ofNat 0)), (.int .u64 (.ofNat 0)), (.bool false), (.int .i64 (.ofNat 0)), (.bool false), (.int .i64 (.ofNat 0))]) fun v7 h8 =>
pStore h8 v7 v5 6 fun h9 =>
joinC (α := AV × AV × Unit → AH → List Nat → R) (fun s10 h11 d12 =>
pLoadN h11 s10.1 6 fun v14 =>
pStore h11 s10.2.1 v14 6 fun h15 =>
pLeave d12 h15 fun h16 =>
pLoadN h16 s10.2.1 6 fun v17 =>
some (v17, h16)) fun j13 =>
pFieldA v7 5 fun v18 =>
pLoad1 h9 v18 fun v19 =>
pInt .eql v19 (.int .i64 (.ofNat 0)) fun v20 =>
pCond v20 (
pNil a0 fun v21 =>
pFieldA v21 9 fun v22 =>
pLoad1 h9 v22 fun v23 =>
pInt .add v23 (.int .i64 (.ofNat 1)) fun v24 =>
pNil a0 fun v25 =>
pFieldA v25 9 fun v26 =>
pStore h9 v26 v24 1 fun h27 =>
j13 (v7, v2, ()) h27 []) (
j13 (v7, v2, ()) h9 [])
theorem S9_eq (c : CV) (a0 a1 : AV) (h : AH) : enterK Tryz.prog NN P9 c 9 [a0, a1] h = S9 c a0 a1 h := by kernel_rfl
def W9 (c : CV) (l : List AV) (h : AH) : R := match l with | [a0, a1] => S9 c a0 a1 h | _ => none
theorem W9_ok : WOk Tryz.prog 9 W9 := by
  intro c l h r e
  unfold W9 at e
  split at e
  · exact ⟨P9, by rw [S9_eq]; exact e⟩
  · cases e
/- (*quietus/thread.Thread).Attempts -/
def P10 : Pl := (.n none .z (.n none .z (.n none (.n none .z (.n none (.n (some [13, 12, 11, 3, 0]) .z .z) .z)) (.n (some [3]) .z .z))))
def S10 (c : CV) (a0 : AV) (h : AH) : R :=
pNil a0 fun v0 =>
pFieldA v0 19 fun v1 =>
pLoad1 h v1 fun v2 =>
pLenS v2 fun v3 =>
loopC (σ := AV × AV × AV × AV × AV × Unit) NN (fun i7 s4 h5 d6 =>
pInt .lss s4.1 s4.2.1 fun v8 =>
pCond v8 (
pIdxS s4.2.2.1 s4.1 14 fun v9 =>
pLoadN h5 v9 14 fun v10 =>
pBox h5 58 (.agg [(.int .i64 (.ofNat 0)), (.int .i64 (.ofNat 0)), (.int .i64 (.ofNat 0)), (.bool false), (.int .i64 (.ofNat 0)), (.int .i64 (.ofNat 0)), (.int .u64 (.ofNat 0)), (.int .u64 (.ofNat 0)), (.int .i64 (.ofNat 0)), (.int .i64 (.ofNat 0)), .nils, .nils, .nils, (.str [])]) fun v11 h12 =>
pStore h12 v11 v10 14 fun h13 =>
pLoadN h13 v11 14 fun v14 =>
pCall c (.fn 31 [] []) [v14] h13 fun v15 h16 =>
pBuildS h16 58 [(.int .i64 (.ofNat 0)), (.int .i64 (.ofNat 0)), (.int .i64 (.ofNat 0)), (.bool false), (.int .i64 (.ofNat 0)), (.int .i64 (.ofNat 0)), (.int .u64 (.ofNat 0)), (.int .u64 (.ofNat 0)), (.int .i64 (.ofNat 0)), (.int .i64 (.ofNat 0)), .nils, .nils, .nils, (.str [])] 1 [(0, 14, v15)] fun v17 h18 =>
pAppend h18 58 14 s4.2.2.2.1 v17 fun v19 h20 =>
pInt .add s4.1 (.int .i64 (.ofNat 1)) fun v21 =>
i7 (v21, s4.2.1, s4.2.2.1, v19, s4.2.2.2.2.1, ()) h20 d6) (
joinC (α := AV × Unit → AH → List Nat → R) (fun s22 h23 d24 =>
pLeave d24 h23 fun h26 =>
some (s22.1, h26)) fun j25 =>
pNil s4.2.2.2.2.1 fun v27 =>
pFieldA v27 11 fun v28 =>
pLoad1 h5 v28 fun v29 =>
pInt .eql v29 (.int .i64 (.ofNat 1)) fun v30 =>
pCond v30 (
pNil s4.2.2.2.2.1 fun v31 =>
pFieldA v31 16 fun v32 =>
pLoad1 h5 v32 fun v33 =>
pCall c (.fn 24 [] []) [v33] h5 fun v34 h35 =>
pExtract v34 0 fun _ =>
pExtract v34 1 fun v37 =>
pCond v37 (
pCall c (.fn 32 [] []) [s4.2.2.2.2.1, (.int .i64 (.ofNat 0))] h35 fun v38 h39 =>
pBuildS h39 58 [(.int .i64 (.ofNat 0)), (.int .i64 (.ofNat 0)), (.int .i64 (.ofNat 0)), (.bool false), (.int .i64 (.ofNat 0)), (.int .i64 (.ofNat 0)), (.int .u64 (.ofNat 0)), (.int .u64 (.ofNat 0)), (.int .i64 (.ofNat 0)), (.int .i64 (.ofNat 0)), .nils, .nils, .nils, (.str [])] 1 [(0, 14, v38)] fun v40 h41 =>
pAppend h41 58 14 s4.2.2.2.1 v40 fun v42 h43 =>
j25 (v42, ()) h43 d6) (
j25 (s4.2.2.2.1, ()) h35 d6)) (
j25 (s4.2.2.2.1, ()) h5 d6))) ((.int .i64 (.ofNat 0)), v3, v2, .nils, a0, ()) h []
theorem S10_eq (c : CV) (a0 : AV) (h : AH) : enterK Tryz.prog NN P10 c 10 [a0] h = S10 c a0 h := by kernel_rfl
def W10 (c : CV) (l : List AV) (h : AH) : R := match l with | [a0] => S10 c a0 h | _ => none
theorem W10_ok : WOk Tryz.prog 10 W10 := by
  intro c l h r e
  unfold W10 at e
  split at e
  · exact ⟨P10, by rw [S10_eq]; exact e⟩
  · cases e
/- (*quietus/thread.Thread).Results -/
def P11 : Pl := .z
def S11 (c : CV) (a0 : AV) (h : AH) : R :=
pNil a0 fun v0 =>
pFieldA v0 20 fun v1 =>
pLoad1 h v1 fun v2 =>
pCall c (.fn 33 [] []) [v2] h fun v3 h4 =>
some (v3, h4)
theorem S11_eq (c : CV) (a0 : AV) (h : AH) : enterK Tryz.prog NN P11 c 11 [a0] h = S11 c a0 h := by kernel_rfl
def W11 (c : CV) (l : List AV) (h : AH) : R := match l with | [a0] => S11 c a0 h | _ => none
theorem W11_ok : WOk Tryz.prog 11 W11 := by
  intro c l h r e
  unfold W11 at e
  split at e
  · exact ⟨P11, by rw [S11_eq]; exact e⟩
  · cases e
/- (*quietus/thread.Thread).Limbo -/
def P12 : Pl := (.n none .z (.n none (.r [[2]]) .z))
def S12 (c : CV) (a0 : AV) (h : AH) : R :=
joinC (α := AV × Unit → AH → R) (fun s0 h1 =>
some (s0.1, h1)) fun j2 =>
pNil a0 fun v3 =>
pFieldA v3 21 fun v4 =>
pLoad1 h v4 fun v5 =>
pCall c (.fn 34 [] []) [v5] h fun v6 h7 =>
pNil a0 fun v8 =>
pFieldA v8 12 fun v9 =>
pFieldA v9 1 fun v10 =>
pLoad1 h7 v10 fun v11 =>
pAppend h7 138 2 v6 v11 fun v12 h13 =>
pChk v10 none v11 h h7 h.nx <|
j2 (v12, ()) h13
theorem S12_eq (c : CV) (a0 : AV) (h : AH) : enterK Tryz.prog NN P12 c 12 [a0] h = S12 c a0 h := by kernel_rfl
def W12 (c : CV) (l : List AV) (h : AH) : R := match l with | [a0] => S12 c a0 h | _ => none
theorem W12_ok : WOk Tryz.prog 12 W12 := by
  intro c l h r e
  unfold W12 at e
  split at e
  · exact ⟨P12, by rw [S12_eq]; exact e⟩
  · cases e
/- (*quietus/thread.Thread).Writing -/
def P13 : Pl := (.n none .z (.n none (.r [[13, 8]]) .z))
def S13 (c : CV) (a0 : AV) (h : AH) : R :=
pNil a0 fun v0 =>
pFieldA v0 11 fun v1 =>
pLoad1 h v1 fun v2 =>
pInt .eql v2 (.int .i64 (.ofNat 1)) fun v3 =>
joinC (α := AV × AV × Unit → AH → R) (fun s4 h5 =>
pPick s4.2.1 s4.1 (.bool false) fun v7 =>
some (v7, h5)) fun j6 =>
pWant v3 true (
pNil a0 fun v8 =>
pFieldA v8 16 fun v9 =>
pLoad1 h v9 fun v10 =>
pCall c (.fn 35 [] []) [v10] h fun v11 h12 =>
j6 (v11, v3, ()) h12) (
j6 (.undef, v3, ()) h)
theorem S13_eq (c : CV) (a0 : AV) (h : AH) : enterK Tryz.prog NN P13 c 13 [a0] h = S13 c a0 h := by kernel_rfl
def W13 (c : CV) (l : List AV) (h : AH) : R := match l with | [a0] => S13 c a0 h | _ => none
theorem W13_ok : WOk Tryz.prog 13 W13 := by
  intro c l h r e
  unfold W13 at e
  split at e
  · exact ⟨P13, by rw [S13_eq]; exact e⟩
  · cases e
/- quietus/mem.Held -/
def P14 : Pl := .z
def S14 (_ : CV) (a0 : AV) (h : AH) : R :=
pBox h 24 a0 fun v0 h1 =>
pBox h1 24 (.agg [(.int .i64 (.ofNat 0)), (.int .i64 (.ofNat 0)), (.int .i64 (.ofNat 0)), (.int .i64 (.ofNat 0)), (.int .u64 (.ofNat 0))]) fun v2 h3 =>
pFieldA v0 0 fun v4 =>
pLoad1 h3 v4 fun v5 =>
pMM false [v5, (.int .i64 (.ofNat 256))] fun v6 =>
pMM true [(.int .i64 (.ofNat 32)), v6] fun v7 =>
pFieldA v0 1 fun v8 =>
pLoad1 h3 v8 fun v9 =>
pMM false [v9, (.int .i64 (.ofNat 16))] fun v10 =>
pMM true [(.int .i64 (.ofNat 1)), v10] fun v11 =>
pFieldA v0 2 fun v12 =>
pLoad1 h3 v12 fun v13 =>
pMM false [v13, (.int .i64 (.ofNat 16))] fun v14 =>
pMM true [(.int .i64 (.ofNat 1)), v14] fun v15 =>
pFieldA v0 3 fun v16 =>
pLoad1 h3 v16 fun v17 =>
pMM false [v17, (.int .i64 (.ofNat 4))] fun v18 =>
pMM true [(.int .i64 (.ofNat 1)), v18] fun v19 =>
pFieldA v0 4 fun v20 =>
pLoad1 h3 v20 fun v21 =>
pMM false [v21, (.int .u64 (.ofNat 4611686018427387903))] fun v22 =>
pBuild [(.int .i64 (.ofNat 0)), (.int .i64 (.ofNat 0)), (.int .i64 (.ofNat 0)), (.int .i64 (.ofNat 0)), (.int .u64 (.ofNat 0))] [(0, 1, v7), (1, 1, v11), (2, 1, v15), (3, 1, v19), (4, 1, v22)] fun v23 =>
pStore h3 v2 v23 5 fun h24 =>
pLoadN h24 v2 5 fun v25 =>
some (v25, h24)
theorem S14_eq (c : CV) (a0 : AV) (h : AH) : enterK Tryz.prog NN P14 c 14 [a0] h = S14 c a0 h := by kernel_rfl
def W14 (c : CV) (l : List AV) (h : AH) : R := match l with | [a0] => S14 c a0 h | _ => none
theorem W14_ok : WOk Tryz.prog 14 W14 := by
  intro c l h r e
  unfold W14 at e
  split at e
  · exact ⟨P14, by rw [S14_eq]; exact e⟩
  · cases e
/- quietus/heap.New -/
def P15 : Pl := .z
def S15 (_ : CV) (a0 : AV) (h : AH) : R :=
pMM false [a0, (.int .i64 (.ofNat 256))] fun v0 =>
pMM true [(.int .i64 (.ofNat 32)), v0] fun v1 =>
pMake h 22 [(.int .u64 (.ofNat 0))] v1 v1 fun v2 h3 =>
pBuild [.nils] [(0, 1, v2)] fun v4 =>
pBox h3 93 v4 fun v5 h6 =>
some (v5, h6)
theorem S15_eq (c : CV) (a0 : AV) (h : AH) : enterK Tryz.prog NN P15 c 15 [a0] h = S15 c a0 h := by kernel_rfl
def W15 (c : CV) (l : List AV) (h : AH) : R := match l with | [a0] => S15 c a0 h | _ => none
theorem W15_ok : WOk Tryz.prog 15 W15 := by
  intro c l h r e
  unfold W15 at e
  split at e
  · exact ⟨P15, by rw [S15_eq]; exact e⟩
  · cases e
/- quietus/stripe.New -/
def P16 : Pl := .z
def S16 (c : CV) (a0 a1 : AV) (h : AH) : R :=
pCall c (.fn 36 [] []) [a0, (.int .i64 (.ofNat 16))] h fun v0 h1 =>
pMake h1 38 [(.int .u64 (.ofNat 0)), (.bool false), (.int .i64 (.ofNat 0))] v0 v0 fun v2 h3 =>
pCall c (.fn 36 [] []) [a1, (.int .i64 (.ofNat 16))] h3 fun v4 h5 =>
pBuild [.nils, (.int .i64 (.ofNat 0))] [(0, 1, v2), (1, 1, v4)] fun v6 =>
pBox h5 97 v6 fun v7 h8 =>
some (v7, h8)
theorem S16_eq (c : CV) (a0 a1 : AV) (h : AH) : enterK Tryz.prog NN P16 c 16 [a0, a1] h = S16 c a0 a1 h := by kernel_rfl
def W16 (c : CV) (l : List AV) (h : AH) : R := match l with | [a0, a1] => S16 c a0 a1 h | _ => none
theorem W16_ok : WOk Tryz.prog 16 W16 := by
  intro c l h r e
  unfold W16 at e
  split at e
  · exact ⟨P16, by rw [S16_eq]; exact e⟩
  · cases e
/- quietus/clock.New -/
def P17 : Pl := .z
def S17 (_ : CV) (a0 : AV) (h : AH) : R :=
pMM false [a0, (.int .u64 (.ofNat 4611686018427387903))] fun v0 =>
pBuild [(.int .u64 (.ofNat 0))] [(0, 1, v0)] fun v1 =>
pBox h 99 v1 fun v2 h3 =>
some (v2, h3)
theorem S17_eq (c : CV) (a0 : AV) (h : AH) : enterK Tryz.prog NN P17 c 17 [a0] h = S17 c a0 h := by kernel_rfl
def W17 (c : CV) (l : List AV) (h : AH) : R := match l with | [a0] => S17 c a0 h | _ => none
theorem W17_ok : WOk Tryz.prog 17 W17 := by
  intro c l h r e
  unfold W17 at e
  split at e
  · exact ⟨P17, by rw [S17_eq]; exact e⟩
  · cases e
/- quietus/epoch.New -/
def P18 : Pl := .z
def S18 (_ : CV) (a0 : AV) (h : AH) : R :=
pMM false [a0, (.int .i64 (.ofNat 4))] fun v0 =>
pMM true [(.int .i64 (.ofNat 1)), v0] fun v1 =>
pMake h 22 [(.int .u64 (.ofNat 0))] v1 v1 fun v2 h3 =>
pBuild [.nils] [(0, 1, v2)] fun v4 =>
pBox h3 101 v4 fun v5 h6 =>
some (v5, h6)
theorem S18_eq (c : CV) (a0 : AV) (h : AH) : enterK Tryz.prog NN P18 c 18 [a0] h = S18 c a0 h := by kernel_rfl
def W18 (c : CV) (l : List AV) (h : AH) : R := match l with | [a0] => S18 c a0 h | _ => none
theorem W18_ok : WOk Tryz.prog 18 W18 := by
  intro c l h r e
  unfold W18 at e
  split at e
  · exact ⟨P18, by rw [S18_eq]; exact e⟩
  · cases e
/- quietus/attempt.Held -/
def P19 : Pl := (.n none .z (.n none (.r [[2]]) .z))
def S19 (c : CV) (a0 : AV) (h : AH) : R :=
pBox h 26 a0 fun v0 h1 =>
pBox h1 26 (.agg [(.int .i64 (.ofNat 0)), (.int .i64 (.ofNat 0)), (.int .i64 (.ofNat 0)), (.int .i64 (.ofNat 0)), (.int .u64 (.ofNat 0)), (.int .i64 (.ofNat 0)), (.int .i64 (.ofNat 0)), (.int .i64 (.ofNat 0))]) fun v2 h3 =>
joinC (α := AV × Unit → AH → R) (fun s4 h5 =>
pLoadN h5 s4.1 8 fun v7 =>
some (v7, h5)) fun j6 =>
pFieldA v0 0 fun v8 =>
pLoadN h3 v8 5 fun v9 =>
pCall c (.fn 14 [] []) [v9] h3 fun v10 h11 =>
pFieldA v0 5 fun v12 =>
pLoad1 h11 v12 fun v13 =>
pMM false [v13, (.int .i64 (.ofNat 4))] fun v14 =>
pMM true [(.int .i64 (.ofNat 0)), v14] fun v15 =>
pFieldA v0 6 fun v16 =>
pLoad1 h11 v16 fun v17 =>
pMM false [v17, (.int .i64 (.ofNat 96))] fun v18 =>
pMM true [(.int .i64 (.ofNat 0)), v18] fun v19 =>
pFieldA v0 7 fun v20 =>
pLoad1 h11 v20 fun v21 =>
pMM false [v21, (.int .i64 (.ofNat 400))] fun v22 =>
pMM true [(.int .i64 (.ofNat 0)), v22] fun v23 =>
pBuild [(.int .i64 (.ofNat 0)), (.int .i64 (.ofNat 0)), (.int .i64 (.ofNat 0)), (.int .i64 (.ofNat 0)), (.int .u64 (.ofNat 0)), (.int .i64 (.ofNat 0)), (.int .i64 (.ofNat 0)), (.int .i64 (.ofNat 0))] [(0, 5, v10), (5, 1, v15), (6, 1, v19), (7, 1, v23)] fun v24 =>
pStore h11 v2 v24 8 fun h25 =>
pChk v20 none v21 h3 h11 h3.nx <|
pChk v16 none v17 h3 h11 h3.nx <|
pChk v12 none v13 h3 h11 h3.nx <|
j6 (v2, ()) h25
theorem S19_eq (c : CV) (a0 : AV) (h : AH) : enterK Tryz.prog NN P19 c 19 [a0] h = S19 c a0 h := by kernel_rfl
def W19 (c : CV) (l : List AV) (h : AH) : R := match l with | [a0] => S19 c a0 h | _ => none
theorem W19_ok : WOk Tryz.prog 19 W19 := by
  intro c l h r e
  unfold W19 at e
  split at e
  · exact ⟨P19, by rw [S19_eq]; exact e⟩
  · cases e
/- quietus/limbo.New -/
def P20 : Pl := .z
def S20 (_ : CV) (h : AH) : R :=
pBuild [.nils] [] fun v0 =>
pBox h 103 v0 fun v1 h2 =>
some (v1, h2)
theorem S20_eq (c : CV) (h : AH) : enterK Tryz.prog NN P20 c 20 [] h = S20 c h := by kernel_rfl
def W20 (c : CV) (l : List AV) (h : AH) : R := match l with | [] => S20 c h | _ => none
theorem W20_ok : WOk Tryz.prog 20 W20 := by
  intro c l h r e
  unfold W20 at e
  split at e
  · exact ⟨P20, by rw [S20_eq]; exact e⟩
  · cases e
/- slices.Clone[[]quietus/api.Ins,quietus/api.Ins] -/
def P21 : Pl := .z
def S21 (_ : CV) (a0 : AV) (h : AH) : R :=
pEq .slc false a0 .nils fun v0 =>
pCond v0 (
some (.nils, h)) (
pBuildS h 30 [(.int .i64 (.ofNat 0)), (.int .i64 (.ofNat 0)), (.int .i64 (.ofNat 0)), (.int .i64 (.ofNat 0)), (.int .u64 (.ofNat 0))] 0 [] fun v1 h2 =>
pAppend h2 30 5 v1 a0 fun v3 h4 =>
some (v3, h4))
theorem S21_eq (c : CV) (a0 : AV) (h : AH) : enterK Tryz.prog NN P21 c 21 [a0] h = S21 c a0 h := by kernel_rfl
def W21 (c : CV) (l : List AV) (h : AH) : R := match l with | [a0] => S21 c a0 h | _ => none
theorem W21_ok : WOk Tryz.prog 21 W21 := by
  intro c l h r e
  unfold W21 at e
  split at e
  · exact ⟨P21, by rw [S21_eq]; exact e⟩
  · cases e
/- (*quietus/thread.Thread).following -/
def P22 : Pl := .z
def S22 (c : CV) (a0 : AV) (h : AH) : R :=
pNil a0 fun v0 =>
pFieldA v0 10 fun v1 =>
pLoad1 h v1 fun v2 =>
pInt .add v2 (.int .i64 (.ofNat 1)) fun v3 =>
pNil a0 fun v4 =>
pFieldA v4 10 fun v5 =>
pStore h v5 v3 1 fun h6 =>
pBuild [(.bool false), .nils, (.int .i64 (.ofNat 0)), (.int .i64 (.ofNat 0))] [] fun v7 =>
pNil a0 fun v8 =>
pFieldA v8 12 fun v9 =>
pStore h6 v9 v7 4 fun h10 =>
pCall c (.fn 37 [] []) [a0] h10 fun _ h12 =>
some ((.tup []), h12)
theorem S22_eq (c : CV) (a0 : AV) (h : AH) : enterK Tryz.prog NN P22 c 22 [a0] h = S22 c a0 h := by kernel_rfl
def W22 (c : CV) (l : List AV) (h : AH) : R := match l with | [a0] => S22 c a0 h | _ => none
theorem W22_ok : WOk Tryz.prog 22 W22 := by
  intro c l h r e
  unfold W22 at e
  split at e
  · exact ⟨P22, by rw [S22_eq]; exact e⟩
  · cases e
/- (*quietus/attempt.Attempt).Next -/
def P23 : Pl := .z
def S23 (_ : CV) (a0 : AV) (h : AH) : R :=
pBox h 40 (.agg [(.int .i64 (.ofNat 0)), (.int .i64 (.ofNat 0)), (.int .u64 (.ofNat 0)), (.int .u64 (.ofNat 0)), (.int .u64 (.ofNat 0)), (.bool false), (.int .i64 (.ofNat 0)), (.int .u64 (.ofNat 0)), (.bool false), (.int .i64 (.ofNat 0))]) fun v0 h1 =>
pNil a0 fun v2 =>
pFieldA v2 14 fun v3 =>
pLoad1 h1 v3 fun v4 =>
pInt .eql v4 (.int .i64 (.ofNat 0)) fun v5 =>
pCond v5 (
pNil a0 fun v6 =>
pFieldA v6 0 fun v7 =>
pLoad1 h1 v7 fun v8 =>
pBuild [(.int .i64 (.ofNat 0)), (.int .i64 (.ofNat 0)), (.int .u64 (.ofNat 0)), (.int .u64 (.ofNat 0)), (.int .u64 (.ofNat 0)), (.bool false), (.int .i64 (.ofNat 0)), (.int .u64 (.ofNat 0)), (.bool false), (.int .i64 (.ofNat 0))] [(0, 1, (.int .i64 (.ofNat 9))), (1, 1, v8), (3, 1, (.int .u64 (.ofNat 1)))] fun v9 =>
pStore h1 v0 v9 10 fun h10 =>
pLoadN h10 v0 10 fun v11 =>
some ((.tup [v11, (.bool true)]), h10)) (
pInt .eql v4 (.int .i64 (.ofNat 1)) fun v12 =>
pCond v12 (
pBuild [(.int .i64 (.ofNat 0)), (.int .i64 (.ofNat 0)), (.int .u64 (.ofNat 0)), (.int .u64 (.ofNat 0)), (.int .u64 (.ofNat 0)), (.bool false), (.int .i64 (.ofNat 0)), (.int .u64 (.ofNat 0)), (.bool false), (.int .i64 (.ofNat 0))] [(0, 1, (.int .i64 (.ofNat 6)))] fun v13 =>
pStore h1 v0 v13 10 fun h14 =>
pLoadN h14 v0 10 fun v15 =>
some ((.tup [v15, (.bool true)]), h14)) (
pInt .eql v4 (.int .i64 (.ofNat 2)) fun v16 =>
pCond v16 (
pNil a0 fun v17 =>
pFieldA v17 0 fun v18 =>
pLoad1 h1 v18 fun v19 =>
pNil a0 fun v20 =>
pFieldA v20 21 fun v21 =>
pLoad1 h1 v21 fun v22 =>
pInt .add v22 (.int .u64 (.ofNat 1)) fun v23 =>
pBuild [(.int .i64 (.ofNat 0)), (.int .i64 (.ofNat 0)), (.int .u64 (.ofNat 0)), (.int .u64 (.ofNat 0)), (.int .u64 (.ofNat 0)), (.bool false), (.int .i64 (.ofNat 0)), (.int .u64 (.ofNat 0)), (.bool false), (.int .i64 (.ofNat 0))] [(0, 1, (.int .i64 (.ofNat 9))), (1, 1, v19), (3, 1, v23)] fun v24 =>
pStore h1 v0 v24 10 fun h25 =>
pLoadN h25 v0 10 fun v26 =>
some ((.tup [v26, (.bool true)]), h25)) (
pInt .eql v4 (.int .i64 (.ofNat 7)) fun v27 =>
pCond v27 (
pNil a0 fun v28 =>
pFieldA v28 0 fun v29 =>
pLoad1 h1 v29 fun v30 =>
pBuild [(.int .i64 (.ofNat 0)), (.int .i64 (.ofNat 0)), (.int .u64 (.ofNat 0)), (.int .u64 (.ofNat 0)), (.int .u64 (.ofNat 0)), (.bool false), (.int .i64 (.ofNat 0)), (.int .u64 (.ofNat 0)), (.bool false), (.int .i64 (.ofNat 0))] [(0, 1, (.int .i64 (.ofNat 9))), (1, 1, v30)] fun v31 =>
pStore h1 v0 v31 10 fun h32 =>
pLoadN h32 v0 10 fun v33 =>
some ((.tup [v33, (.bool true)]), h32)) (
pInt .eql v4 (.int .i64 (.ofNat 8)) fun v34 =>
pCond v34 (
pBuild [(.int .i64 (.ofNat 0)), (.int .i64 (.ofNat 0)), (.int .u64 (.ofNat 0)), (.int .u64 (.ofNat 0)), (.int .u64 (.ofNat 0)), (.bool false), (.int .i64 (.ofNat 0)), (.int .u64 (.ofNat 0)), (.bool false), (.int .i64 (.ofNat 0))] [] fun v35 =>
pStore h1 v0 v35 10 fun h36 =>
pLoadN h36 v0 10 fun v37 =>
some ((.tup [v37, (.bool false)]), h36)) (
pNil a0 fun v38 =>
pFieldA v38 15 fun v39 =>
pLoad1 h1 v39 fun _ =>
none /- op -/)))))
theorem S23_eq (c : CV) (a0 : AV) (h : AH) : enterK Tryz.prog NN P23 c 23 [a0] h = S23 c a0 h := by kernel_rfl
def W23 (c : CV) (l : List AV) (h : AH) : R := match l with | [a0] => S23 c a0 h | _ => none
theorem W23_ok : WOk Tryz.prog 23 W23 := by
  intro c l h r e
  unfold W23 at e
  split at e
  · exact ⟨P23, by rw [S23_eq]; exact e⟩
  · cases e
/- (*quietus/attempt.Attempt).Begin -/
def P24 : Pl := .z
def S24 (_ : CV) (a0 : AV) (h : AH) : R :=
pNil a0 fun v0 =>
pFieldA v0 20 fun v1 =>
pLoad1 h v1 fun v2 =>
pNil a0 fun v3 =>
pFieldA v3 19 fun v4 =>
pLoad1 h v4 fun v5 =>
some ((.tup [v2, v5]), h)
theorem S24_eq (c : CV) (a0 : AV) (h : AH) : enterK Tryz.prog NN P24 c 24 [a0] h = S24 c a0 h := by kernel_rfl
def W24 (c : CV) (l : List AV) (h : AH) : R := match l with | [a0] => S24 c a0 h | _ => none
theorem W24_ok : WOk Tryz.prog 24 W24 := by
  intro c l h r e
  unfold W24 at e
  split at e
  · exact ⟨P24, by rw [S24_eq]; exact e⟩
  · cases e
/- (*quietus/attempt.Attempt).Tell -/
def P25 : Pl := (.n none .z (.n none .z (.n none .z (.n none .z (.n (some []) (.n none .z (.n none .z (.n none .z (.n none (.n none (.r [[0]]) .z) .z)))) .z)))))
def S25 (c : CV) (a0 a1 : AV) (h : AH) : R :=
pBox h 47 a1 fun v0 h1 =>
pNil a0 fun v2 =>
pFieldA v2 14 fun v3 =>
pLoad1 h1 v3 fun v4 =>
pInt .eql v4 (.int .i64 (.ofNat 8)) fun v5 =>
pCond v5 (
some ((.tup []), h1)) (
pFieldA v0 5 fun v6 =>
pLoad1 h1 v6 fun v7 =>
pInt .neq v7 (.int .i64 (.ofNat 0)) fun v8 =>
pCond v8 (
pFieldA v0 5 fun v9 =>
pLoad1 h1 v9 fun v10 =>
pCall c (.fn 38 [] []) [a0, (.int .i64 (.ofNat 4)), v10, (.int .i64 (.negSucc 0))] h1 fun _ h12 =>
pNil a0 fun v13 =>
pFieldA v13 14 fun v14 =>
pStore h12 v14 (.int .i64 (.ofNat 8)) 1 fun h15 =>
some ((.tup []), h15)) (
pNil a0 fun v16 =>
pFieldA v16 14 fun v17 =>
pLoad1 h1 v17 fun v18 =>
joinC (α := Unit → AH → List Nat → R) (fun _ h20 d21 =>
pLeave d21 h20 fun h23 =>
some ((.tup []), h23)) fun j22 =>
pInt .eql v18 (.int .i64 (.ofNat 0)) fun v24 =>
pCond v24 (
pNil a0 fun v25 =>
pFieldA v25 14 fun v26 =>
pStore h1 v26 (.int .i64 (.ofNat 1)) 1 fun h27 =>
j22 (()) h27 []) (
pInt .eql v18 (.int .i64 (.ofNat 1)) fun v28 =>
pCond v28 (
joinC (α := AV × Unit → AH → R) (fun s29 h30 =>
pNil s29.1 fun v32 =>
pFieldA v32 14 fun v33 =>
pStore h30 v33 (.int .i64 (.ofNat 2)) 1 fun h34 =>
j22 (()) h34 []) fun j31 =>
pFieldA v0 0 fun v35 =>
pLoad1 h1 v35 fun v36 =>
pFieldA v0 0 fun v37 =>
pLoad1 h1 v37 fun v38 =>
pNil a0 fun v39 =>
pFieldA v39 19 fun v40 =>
pStore h1 v40 (.bool true) 1 fun h41 =>
pNil a0 fun v42 =>
pFieldA v42 20 fun v43 =>
pStore h41 v43 v36 1 fun h44 =>
pNil a0 fun v45 =>
pFieldA v45 21 fun v46 =>
pStore h44 v46 v38 1 fun h47 =>
pChk v37 none v38 h41 h44 h1.nx <|
pChk v37 none v38 h1 h41 h1.nx <|
pChk v35 none v36 h1 h41 h1.nx <|
j31 (a0, ()) h47) (
pInt .eql v18 (.int .i64 (.ofNat 2)) fun v48 =>
pCond v48 (
pCall c (.fn 39 [] []) [a0] h1 fun _ h50 =>
j22 (()) h50 []) (
pInt .eql v18 (.int .i64 (.ofNat 7)) fun v51 =>
pCond v51 (
pNil a0 fun v52 =>
pFieldA v52 14 fun v53 =>
pStore h1 v53 (.int .i64 (.ofNat 8)) 1 fun h54 =>
j22 (()) h54 []) (
pNil a0 fun v55 =>
pFieldA v55 15 fun v56 =>
pLoad1 h1 v56 fun _ =>
pLoadN h1 v0 6 fun _ =>
none /- op -/))))))
theorem S25_eq (c : CV) (a0 a1 : AV) (h : AH) : enterK Tryz.prog NN P25 c 25 [a0, a1] h = S25 c a0 a1 h := by kernel_rfl
def W25 (c : CV) (l : List AV) (h : AH) : R := match l with | [a0, a1] => S25 c a0 a1 h | _ => none
theorem W25_ok : WOk Tryz.prog 25 W25 := by
  intro c l h r e
  unfold W25 at e
  split at e
  · exact ⟨P25, by rw [S25_eq]; exact e⟩
  · cases e
/- (*quietus/attempt.Attempt).End -/
def P26 : Pl := .z
def S26 (_ : CV) (a0 : AV) (h : AH) : R :=
pNil a0 fun v0 =>
pFieldA v0 14 fun v1 =>
pLoad1 h v1 fun v2 =>
pInt .neq v2 (.int .i64 (.ofNat 8)) fun v3 =>
pCond v3 (
some ((.int .i64 (.ofNat 0)), h)) (
pNil a0 fun v4 =>
pFieldA v4 22 fun v5 =>
pLoad1 h v5 fun v6 =>
some (v6, h))
theorem S26_eq (c : CV) (a0 : AV) (h : AH) : enterK Tryz.prog NN P26 c 26 [a0] h = S26 c a0 h := by kernel_rfl
def W26 (c : CV) (l : List AV) (h : AH) : R := match l with | [a0] => S26 c a0 h | _ => none
theorem W26_ok : WOk Tryz.prog 26 W26 := by
  intro c l h r e
  unfold W26 at e
  split at e
  · exact ⟨P26, by rw [S26_eq]; exact e⟩
  · cases e
/- (*quietus/thread.Thread).ended -/
def P27 : Pl := (.n none .z (.n none (.r [[6, 1, 0]]) (.n none .z (.n (some []) (.n none .z (.n none (.n none .z (.n none (.n none (.r [[87, 6, 1, 0]]) .z) .z)) (.n none .z (.n none .z (.n none .z (.n none .z (.n none (.r [[6, 0]]) (.n none (.r [[0]]) .z)))))))) .z))))
def S27 (c : CV) (a0 a1 a2 : AV) (h : AH) : R :=
pNil a0 fun v0 =>
pFieldA v0 16 fun v1 =>
pLoad1 h v1 fun v2 =>
joinC (α := AV × AV × AV × Unit → AH → R) (fun s3 h4 =>
pNil s3.2.2.1 fun v6 =>
pFieldA v6 12 fun v7 =>
pFieldA v7 2 fun v8 =>
pLoad1 h4 v8 fun v9 =>
pInt .add v9 (.int .i64 (.ofNat 1)) fun v10 =>
pNil s3.2.2.1 fun v11 =>
pFieldA v11 12 fun v12 =>
pFieldA v12 2 fun v13 =>
pStore h4 v13 v10 1 fun h14 =>
joinC (α := Unit → AH → List Nat → R) (fun _ h16 d17 =>
pLeave d17 h16 fun h19 =>
some ((.tup []), h19)) fun j18 =>
pCall c (.fn 26 [] []) [s3.1] h14 fun v20 h21 =>
pInt .eql v20 (.int .i64 (.ofNat 5)) fun v22 =>
pCond v22 (
pNil s3.2.2.1 fun v23 =>
pFieldA v23 12 fun v24 =>
pFieldA v24 3 fun v25 =>
pLoad1 h21 v25 fun v26 =>
pInt .add v26 (.int .i64 (.ofNat 1)) fun v27 =>
pNil s3.2.2.1 fun v28 =>
pFieldA v28 12 fun v29 =>
pFieldA v29 3 fun v30 =>
pStore h21 v30 v27 1 fun h31 =>
joinC (α := AV × AV × AV × AV × Unit → AH → R) (fun s32 h33 =>
pCond s32.1 (
pCall c (.fn 41 [] []) [s32.2.1] h33 fun v35 h36 =>
pNil s32.2.2.2.1 fun v37 =>
pFieldA v37 11 fun v38 =>
pStore h36 v38 (.int .i64 (.ofNat 2)) 1 fun h39 =>
pNil s32.2.2.2.1 fun v40 =>
pFieldA v40 23 fun v41 =>
pStore h39 v41 v35 1 fun h42 =>
pNil s32.2.2.2.1 fun v43 =>
pFieldA v43 25 fun v44 =>
pStore h42 v44 (.bool false) 1 fun h45 =>
some ((.tup []), h45)) (
pCall c (.fn 42 [] []) [s32.2.2.2.1, s32.2.2.1] h33 fun _ h47 =>
j18 (()) h47 [])) fun j34 =>
pCall c (.fn 41 [] []) [s3.1] h31 fun v48 h49 =>
pInt .geq v48 (.int .i64 (.ofNat 0)) fun v50 =>
pWant v50 true (
pWant v50 true (
pCall c (.fn 41 [] []) [s3.1] h49 fun v51 h52 =>
pWant v50 true (
pWant v50 true (
pNil s3.2.2.1 fun v53 =>
pWant v50 true (
pFieldA v53 1 fun v54 =>
pWant v50 true (
pFieldA v54 0 fun v55 =>
pWant v50 true (
pFieldA v55 3 fun v56 =>
pWant v50 true (
pLoad1 h52 v56 fun v57 =>
pWant v50 true (
pInt .lss v51 v57 fun v58 =>
pPick v50 v58 (.bool false) fun v59 =>
pChk v56 none v57 h49 h52 h31.nx <|
j34 (v59, s3.1, s3.2.1, s3.2.2.1, ()) h52) (
pPick v50 .undef (.bool false) fun v60 =>
pChk v56 none v57 h49 h52 h31.nx <|
j34 (v60, s3.1, s3.2.1, s3.2.2.1, ()) h52)) (
pWant v50 true (
pInt .lss v51 .undef fun v61 =>
pPick v50 v61 (.bool false) fun v62 =>
j34 (v62, s3.1, s3.2.1, s3.2.2.1, ()) h52) (
pPick v50 .undef (.bool false) fun v63 =>
j34 (v63, s3.1, s3.2.1, s3.2.2.1, ()) h52))) (
pWant v50 true (
pLoad1 h52 .undef fun v64 =>
pWant v50 true (
pInt .lss v51 v64 fun v65 =>
pPick v50 v65 (.bool false) fun v66 =>
pChk .undef none v64 h49 h52 h31.nx <|
j34 (v66, s3.1, s3.2.1, s3.2.2.1, ()) h52) (
pPick v50 .undef (.bool false) fun v67 =>
pChk .undef none v64 h49 h52 h31.nx <|
j34 (v67, s3.1, s3.2.1, s3.2.2.1, ()) h52)) (
pWant v50 true (
pInt .lss v51 .undef fun v68 =>
pPick v50 v68 (.bool false) fun v69 =>
j34 (v69, s3.1, s3.2.1, s3.2.2.1, ()) h52) (
pPick v50 .undef (.bool false) fun v70 =>
j34 (v70, s3.1, s3.2.1, s3.2.2.1, ()) h52)))) (
pWant v50 true (
pFieldA .undef 3 fun v71 =>
pWant v50 true (
pLoad1 h52 v71 fun v72 =>
pWant v50 true (
pInt .lss v51 v72 fun v73 =>
pPick v50 v73 (.bool false) fun v74 =>
pChk v71 none v72 h49 h52 h31.nx <|
j34 (v74, s3.1, s3.2.1, s3.2.2.1, ()) h52) (
pPick v50 .undef (.bool false) fun v75 =>
pChk v71 none v72 h49 h52 h31.nx <|
j34 (v75, s3.1, s3.2.1, s3.2.2.1, ()) h52)) (
pWant v50 true (
pInt .lss v51 .undef fun v76 =>
pPick v50 v76 (.bool false) fun v77 =>
j34 (v77, s3.1, s3.2.1, s3.2.2.1, ()) h52) (
pPick v50 .undef (.bool false) fun v78 =>
j34 (v78, s3.1, s3.2.1, s3.2.2.1, ()) h52))) (
pWant v50 true (
pLoad1 h52 .undef fun v79 =>
pWant v50 true (
pInt .lss v51 v79 fun v80 =>
pPick v50 v80 (.bool false) fun v81 =>
pChk .undef none v79 h49 h52 h31.nx <|
j34 (v81, s3.1, s3.2.1, s3.2.2.1, ()) h52) (
pPick v50 .undef (.bool false) fun v82 =>
pChk .undef none v79 h49 h52 h31.nx <|
j34 (v82, s3.1, s3.2.1, s3.2.2.1, ()) h52)) (
pWant v50 true (
pInt .lss v51 .undef fun v83 =>
pPick v50 v83 (.bool false) fun v84 =>
j34 (v84, s3.1, s3.2.1, s3.2.2.1, ()) h52) (
pPick v50 .undef (.bool false) fun v85 =>
j34 (v85, s3.1, s3.2.1, s3.2.2.1, ()) h52))))) (
pWant v50 true (
pFieldA .undef 0 fun v86 =>
pWant v50 true (
pFieldA v86 3 fun v87 =>
pWant v50 true (
pLoad1 h52 v87 fun v88 =>
pWant v50 true (
pInt .lss v51 v88 fun v89 =>
pPick v50 v89 (.bool false) fun v90 =>
pChk v87 none v88 h49 h52 h31.nx <|
j34 (v90, s3.1, s3.2.1, s3.2.2.1, ()) h52) (
pPick v50 .undef (.bool false) fun v91 =>
pChk v87 none v88 h49 h52 h31.nx <|
j34 (v91, s3.1, s3.2.1, s3.2.2.1, ()) h52)) (
pWant v50 true (
pInt .lss v51 .undef fun v92 =>
pPick v50 v92 (.bool false) fun v93 =>
j34 (v93, s3.1, s3.2.1, s3.2.2.1, ()) h52) (
pPick v50 .undef (.bool false) fun v94 =>
j34 (v94, s3.1, s3.2.1, s3.2.2.1, ()) h52))) (
pWant v50 true (
pLoad1 h52 .undef fun v95 =>
pWant v50 true (
pInt .lss v51 v95 fun v96 =>
pPick v50 v96 (.bool false) fun v97 =>
pChk .undef none v95 h49 h52 h31.nx <|
j34 (v97, s3.1, s3.2.1, s3.2.2.1, ()) h52) (
pPick v50 .undef (.bool false) fun v98 =>
pChk .undef none v95 h49 h52 h31.nx <|
j34 (v98, s3.1, s3.2.1, s3.2.2.1, ()) h52)) (
pWant v50 true (
pInt .lss v51 .undef fun v99 =>
pPick v50 v99 (.bool false) fun v100 =>
j34 (v100, s3.1, s3.2.1, s3.2.2.1, ()) h52) (
pPick v50 .undef (.bool false) fun v101 =>
j34 (v101, s3.1, s3.2.1, s3.2.2.1, ()) h52)))) (
pWant v50 true (
pFieldA .undef 3 fun v102 =>
pWant v50 true (
pLoad1 h52 v102 fun v103 =>
pWant v50 true (
pInt .lss v51 v103 fun v104 =>
pPick v50 v104 (.bool false) fun v105 =>
pChk v102 none v103 h49 h52 h31.nx <|
j34 (v105, s3.1, s3.2.1, s3.2.2.1, ()) h52) (
pPick v50 .undef (.bool false) fun v106 =>
pChk v102 none v103 h49 h52 h31.nx <|
j34 (v106, s3.1, s3.2.1, s3.2.2.1, ()) h52)) (
pWant v50 true (
pInt .lss v51 .undef fun v107 =>
pPick v50 v107 (.bool false) fun v108 =>
j34 (v108, s3.1, s3.2.1, s3.2.2.1, ()) h52) (
pPick v50 .undef (.bool false) fun v109 =>
j34 (v109, s3.1, s3.2.1, s3.2.2.1, ()) h52))) (
pWant v50 true (
pLoad1 h52 .undef fun v110 =>
pWant v50 true (
pInt .lss v51 v110 fun v111 =>
pPick v50 v111 (.bool false) fun v112 =>
pChk .undef none v110 h49 h52 h31.nx <|
j34 (v112, s3.1, s3.2.1, s3.2.2.1, ()) h52) (
pPick v50 .undef (.bool false) fun v113 =>
pChk .undef none v110 h49 h52 h31.nx <|
j34 (v113, s3.1, s3.2.1, s3.2.2.1, ()) h52)) (
pWant v50 true (
pInt .lss v51 .undef fun v114 =>
pPick v50 v114 (.bool false) fun v115 =>
j34 (v115, s3.1, s3.2.1, s3.2.2.1, ()) h52) (
pPick v50 .undef (.bool false) fun v116 =>
j34 (v116, s3.1, s3.2.1, s3.2.2.1, ()) h52)))))) (
pWant v50 true (
pFieldA .undef 1 fun v117 =>
pWant v50 true (
pFieldA v117 0 fun v118 =>
pWant v50 true (
pFieldA v118 3 fun v119 =>
pWant v50 true (
pLoad1 h52 v119 fun v120 =>
pWant v50 true (
pInt .lss v51 v120 fun v121 =>
pPick v50 v121 (.bool false) fun v122 =>
pChk v119 none v120 h49 h52 h31.nx <|
j34 (v122, s3.1, s3.2.1, s3.2.2.1, ()) h52) (
pPick v50 .undef (.bool false) fun v123 =>
pChk v119 none v120 h49 h52 h31.nx <|
j34 (v123, s3.1, s3.2.1, s3.2.2.1, ()) h52)) (
pWant v50 true (
pInt .lss v51 .undef fun v124 =>
pPick v50 v124 (.bool false) fun v125 =>
j34 (v125, s3.1, s3.2.1, s3.2.2.1, ()) h52) (
pPick v50 .undef (.bool false) fun v126 =>
j34 (v126, s3.1, s3.2.1, s3.2.2.1, ()) h52))) (
pWant v50 true (
pLoad1 h52 .undef fun v127 =>
pWant v50 true (
pInt .lss v51 v127 fun v128 =>
pPick v50 v128 (.bool false) fun v129 =>
pChk .undef none v127 h49 h52 h31.nx <|
j34 (v129, s3.1, s3.2.1, s3.2.2.1, ()) h52) (
pPick v50 .undef (.bool false) fun v130 =>
pChk .undef none v127 h49 h52 h31.nx <|
j34 (v130, s3.1, s3.2.1, s3.2.2.1, ()) h52)) (
pWant v50 true (
pInt .lss v51 .undef fun v131 =>
pPick v50 v131 (.bool false) fun v132 =>
j34 (v132, s3.1, s3.2.1, s3.2.2.1, ()) h52) (
pPick v50 .undef (.bool false) fun v133 =>
j34 (v133, s3.1, s3.2.1, s3.2.2.1, ()) h52)))) (
pWant v50 true (
pFieldA .undef 3 fun v134 =>
pWant v50 true (
pLoad1 h52 v134 fun v135 =>
pWant v50 true (
pInt .lss v51 v135 fun v136 =>
pPick v50 v136 (.bool false) fun v137 =>
pChk v134 none v135 h49 h52 h31.nx <|
j34 (v137, s3.1, s3.2.1, s3.2.2.1, ()) h52) (
pPick v50 .undef (.bool false) fun v138 =>
pChk v134 none v135 h49 h52 h31.nx <|
j34 (v138, s3.1, s3.2.1, s3.2.2.1, ()) h52)) (
pWant v50 true (
pInt .lss v51 .undef fun v139 =>
pPick v50 v139 (.bool false) fun v140 =>
j34 (v140, s3.1, s3.2.1, s3.2.2.1, ()) h52) (
pPick v50 .undef (.bool false) fun v141 =>
j34 (v141, s3.1, s3.2.1, s3.2.2.1, ()) h52))) (
pWant v50 true (
pLoad1 h52 .undef fun v142 =>
pWant v50 true (
pInt .lss v51 v142 fun v143 =>
pPick v50 v143 (.bool false) fun v144 =>
pChk .undef none v142 h49 h52 h31.nx <|
j34 (v144, s3.1, s3.2.1, s3.2.2.1, ()) h52) (
pPick v50 .undef (.bool false) fun v145 =>
pChk .undef none v142 h49 h52 h31.nx <|
j34 (v145, s3.1, s3.2.1, s3.2.2.1, ()) h52)) (
pWant v50 true (
pInt .lss v51 .undef fun v146 =>
pPick v50 v146 (.bool false) fun v147 =>
j34 (v147, s3.1, s3.2.1, s3.2.2.1, ()) h52) (
pPick v50 .undef (.bool false) fun v148 =>
j34 (v148, s3.1, s3.2.1, s3.2.2.1, ()) h52))))) (
pWant v50 true (
pFieldA .undef 0 fun v149 =>
pWant v50 true (
pFieldA v149 3 fun v150 =>
pWant v50 true (
pLoad1 h52 v150 fun v151 =>
pWant v50 true (
pInt .lss v51 v151 fun v152 =>
pPick v50 v152 (.bool false) fun v153 =>
pChk v150 none v151 h49 h52 h31.nx <|
j34 (v153, s3.1, s3.2.1, s3.2.2.1, ()) h52) (
pPick v50 .undef (.bool false) fun v154 =>
pChk v150 none v151 h49 h52 h31.nx <|
j34 (v154, s3.1, s3.2.1, s3.2.2.1, ()) h52)) (
pWant v50 true (
pInt .lss v51 .undef fun v155 =>
pPick v50 v155 (.bool false) fun v156 =>
j34 (v156, s3.1, s3.2.1, s3.2.2.1, ()) h52) (
pPick v50 .undef (.bool false) fun v157 =>
j34 (v157, s3.1, s3.2.1, s3.2.2.1, ()) h52))) (
pWant v50 true (
pLoad1 h52 .undef fun v158 =>
pWant v50 true (
pInt .lss v51 v158 fun v159 =>
pPick v50 v159 (.bool false) fun v160 =>
pChk .undef none v158 h49 h52 h31.nx <|
j34 (v160, s3.1, s3.2.1, s3.2.2.1, ()) h52) (
pPick v50 .undef (.bool false) fun v161 =>
pChk .undef none v158 h49 h52 h31.nx <|
j34 (v161, s3.1, s3.2.1, s3.2.2.1, ()) h52)) (
pWant v50 true (
pInt .lss v51 .undef fun v162 =>
pPick v50 v162 (.bool false) fun v163 =>
j34 (v163, s3.1, s3.2.1, s3.2.2.1, ()) h52) (
pPick v50 .undef (.bool false) fun v164 =>
j34 (v164, s3.1, s3.2.1, s3.2.2.1, ()) h52)))) (
pWant v50 true (
pFieldA .undef 3 fun v165 =>
pWant v50 true (
pLoad1 h52 v165 fun v166 =>
pWant v50 true (
pInt .lss v51 v166 fun v167 =>
pPick v50 v167 (.bool false) fun v168 =>
pChk v165 none v166 h49 h52 h31.nx <|
j34 (v168, s3.1, s3.2.1, s3.2.2.1, ()) h52) (
pPick v50 .undef (.bool false) fun v169 =>
pChk v165 none v166 h49 h52 h31.nx <|
j34 (v169, s3.1, s3.2.1, s3.2.2.1, ()) h52)) (
pWant v50 true (
pInt .lss v51 .undef fun v170 =>
pPick v50 v170 (.bool false) fun v171 =>
j34 (v171, s3.1, s3.2.1, s3.2.2.1, ()) h52) (
pPick v50 .undef (.bool false) fun v172 =>
j34 (v172, s3.1, s3.2.1, s3.2.2.1, ()) h52))) (
pWant v50 true (
pLoad1 h52 .undef fun v173 =>
pWant v50 true (
pInt .lss v51 v173 fun v174 =>
pPick v50 v174 (.bool false) fun v175 =>
pChk .undef none v173 h49 h52 h31.nx <|
j34 (v175, s3.1, s3.2.1, s3.2.2.1, ()) h52) (
pPick v50 .undef (.bool false) fun v176 =>
pChk .undef none v173 h49 h52 h31.nx <|
j34 (v176, s3.1, s3.2.1, s3.2.2.1, ()) h52)) (
pWant v50 true (
pInt .lss v51 .undef fun v177 =>
pPick v50 v177 (.bool false) fun v178 =>
j34 (v178, s3.1, s3.2.1, s3.2.2.1, ()) h52) (
pPick v50 .undef (.bool false) fun v179 =>
j34 (v179, s3.1, s3.2.1, s3.2.2.1, ()) h52))))))) (
pWant v50 true (
pNil .undef fun v180 =>
pWant v50 true (
pFieldA v180 1 fun v181 =>
pWant v50 true (
pFieldA v181 0 fun v182 =>
pWant v50 true (
pFieldA v182 3 fun v183 =>
pWant v50 true (
pLoad1 h52 v183 fun v184 =>
pWant v50 true (
pInt .lss v51 v184 fun v185 =>
pPick v50 v185 (.bool false) fun v186 =>
pChk v183 none v184 h49 h52 h31.nx <|
j34 (v186, s3.1, s3.2.1, s3.2.2.1, ()) h52) (
pPick v50 .undef (.bool false) fun v187 =>
pChk v183 none v184 h49 h52 h31.nx <|
j34 (v187, s3.1, s3.2.1, s3.2.2.1, ()) h52)) (
pWant v50 true (
pInt .lss v51 .undef fun v188 =>
pPick v50 v188 (.bool false) fun v189 =>
j34 (v189, s3.1, s3.2.1, s3.2.2.1, ()) h52) (
pPick v50 .undef (.bool false) fun v190 =>
j34 (v190, s3.1, s3.2.1, s3.2.2.1, ()) h52))) (
pWant v50 true (
pLoad1 h52 .undef fun v191 =>
pWant v50 true (
pInt .lss v51 v191 fun v192 =>
pPick v50 v192 (.bool false) fun v193 =>
pChk .undef none v191 h49 h52 h31.nx <|
j34 (v193, s3.1, s3.2.1, s3.2.2.1, ()) h52) (
pPick v50 .undef (.bool false) fun v194 =>
pChk .undef none v191 h49 h52 h31.nx <|
j34 (v194, s3.1, s3.2.1, s3.2.2.1, ()) h52)) (
pWant v50 true (
pInt .lss v51 .undef fun v195 =>
pPick v50 v195 (.bool false) fun v196 =>
j34 (v196, s3.1, s3.2.1, s3.2.2.1, ()) h52) (
pPick v50 .undef (.bool false) fun v197 =>
j34 (v197, s3.1, s3.2.1, s3.2.2.1, ()) h52)))) (
pWant v50 true (
pFieldA .undef 3 fun v198 =>
pWant v50 true (
pLoad1 h52 v198 fun v199 =>
pWant v50 true (
pInt .lss v51 v199 fun v200 =>
pPick v50 v200 (.bool false) fun v201 =>
pChk v198 none v199 h49 h52 h31.nx <|
j34 (v201, s3.1, s3.2.1, s3.2.2.1, ()) h52) (
pPick v50 .undef (.bool false) fun v202 =>
pChk v198 none v199 h49 h52 h31.nx <|
j34 (v202, s3.1, s3.2.1, s3.2.2.1, ()) h52)) (
pWant v50 true (
pInt .lss v51 .undef fun v203 =>
pPick v50 v203 (.bool false) fun v204 =>
j34 (v204, s3.1, s3.2.1, s3.2.2.1, ()) h52) (
pPick v50 .undef (.bool false) fun v205 =>
j34 (v205, s3.1, s3.2.1, s3.2.2.1, ()) h52))) (
pWant v50 true (
pLoad1 h52 .undef fun v206 =>
pWant v50 true (
pInt .lss v51 v206 fun v207 =>
pPick v50 v207 (.bool false) fun v208 =>
pChk .undef none v206 h49 h52 h31.nx <|
j34 (v208, s3.1, s3.2.1, s3.2.2.1, ()) h52) (
pPick v50 .undef (.bool false) fun v209 =>
pChk .undef none v206 h49 h52 h31.nx <|
j34 (v209, s3.1, s3.2.1, s3.2.2.1, ()) h52)) (
pWant v50 true (
pInt .lss v51 .undef fun v210 =>
pPick v50 v210 (.bool false) fun v211 =>
j34 (v211, s3.1, s3.2.1, s3.2.2.1, ()) h52) (
pPick v50 .undef (.bool false) fun v212 =>
j34 (v212, s3.1, s3.2.1, s3.2.2.1, ()) h52))))) (
pWant v50 true (
pFieldA .undef 0 fun v213 =>
pWant v50 true (
pFieldA v213 3 fun v214 =>
pWant v50 true (
pLoad1 h52 v214 fun v215 =>
pWant v50 true (
pInt .lss v51 v215 fun v216 =>
pPick v50 v216 (.bool false) fun v217 =>
pChk v214 none v215 h49 h52 h31.nx <|
j34 (v217, s3.1, s3.2.1, s3.2.2.1, ()) h52) (
pPick v50 .undef (.bool false) fun v218 =>
pChk v214 none v215 h49 h52 h31.nx <|
j34 (v218, s3.1, s3.2.1, s3.2.2.1, ()) h52)) (
pWant v50 true (
pInt .lss v51 .undef fun v219 =>
pPick v50 v219 (.bool false) fun v220 =>
j34 (v220, s3.1, s3.2.1, s3.2.2.1, ()) h52) (
pPick v50 .undef (.bool false) fun v221 =>
j34 (v221, s3.1, s3.2.1, s3.2.2.1, ()) h52))) (
pWant v50 true (
pLoad1 h52 .undef fun v222 =>
pWant v50 true (
pInt .lss v51 v222 fun v223 =>
pPick v50 v223 (.bool false) fun v224 =>
pChk .undef none v222 h49 h52 h31.nx <|
j34 (v224, s3.1, s3.2.1, s3.2.2.1, ()) h52) (
pPick v50 .undef (.bool false) fun v225 =>
pChk .undef none v222 h49 h52 h31.nx <|
j34 (v225, s3.1, s3.2.1, s3.2.2.1, ()) h52)) (
pWant v50 true (
pInt .lss v51 .undef fun v226 =>
pPick v50 v226 (.bool false) fun v227 =>
j34 (v227, s3.1, s3.2.1, s3.2.2.1, ()) h52) (
pPick v50 .undef (.bool false) fun v228 =>
j34 (v228, s3.1, s3.2.1, s3.2.2.1, ()) h52)))) (
pWant v50 true (
pFieldA .undef 3 fun v229 =>
pWant v50 true (
pLoad1 h52 v229 fun v230 =>
pWant v50 true (
pInt .lss v51 v230 fun v231 =>
pPick v50 v231 (.bool false) fun v232 =>
pChk v229 none v230 h49 h52 h31.nx <|
j34 (v232, s3.1, s3.2.1, s3.2.2.1, ()) h52) (
pPick v50 .undef (.bool false) fun v233 =>
pChk v229 none v230 h49 h52 h31.nx <|
j34 (v233, s3.1, s3.2.1, s3.2.2.1, ()) h52)) (
pWant v50 true (
pInt .lss v51 .undef fun v234 =>
pPick v50 v234 (.bool false) fun v235 =>
j34 (v235, s3.1, s3.2.1, s3.2.2.1, ()) h52) (
pPick v50 .undef (.bool false) fun v236 =>
j34 (v236, s3.1, s3.2.1, s3.2.2.1, ()) h52))) (
pWant v50 true (
pLoad1 h52 .undef fun v237 =>
pWant v50 true (
pInt .lss v51 v237 fun v238 =>
pPick v50 v238 (.bool false) fun v239 =>
pChk .undef none v237 h49 h52 h31.nx <|
j34 (v239, s3.1, s3.2.1, s3.2.2.1, ()) h52) (
pPick v50 .undef (.bool false) fun v240 =>
pChk .undef none v237 h49 h52 h31.nx <|
j34 (v240, s3.1, s3.2.1, s3.2.2.1, ()) h52)) (
pWant v50 true (
pInt .lss v51 .undef fun v241 =>
pPick v50 v241 (.bool false) fun v242 =>
j34 (v242, s3.1, s3.2.1, s3.2.2.1, ()) h52) (
pPick v50 .undef (.bool false) fun v243 =>
j34 (v243, s3.1, s3.2.1, s3.2.2.1, ()) h52)))))) (
pWant v50 true (
pFieldA .undef 1 fun v244 =>
pWant v50 true (
pFieldA v244 0 fun v245 =>
pWant v50 true (
pFieldA v245 3 fun v246 =>
pWant v50 true (
pLoad1 h52 v246 fun v247 =>
pWant v50 true (
pInt .lss v51 v247 fun v248 =>
pPick v50 v248 (.bool false) fun v249 =>
pChk v246 none v247 h49 h52 h31.nx <|
j34 (v249, s3.1, s3.2.1, s3.2.2.1, ()) h52) (
pPick v50 .undef (.bool false) fun v250 =>
pChk v246 none v247 h49 h52 h31.nx <|
j34 (v250, s3.1, s3.2.1, s3.2.2.1, ()) h52)) (
pWant v50 true (
pInt .lss v51 .undef fun v251 =>
pPick v50 v251 (.bool false) fun v252 =>
j34 (v252, s3.1, s3.2.1, s3.2.2.1, ()) h52) (
pPick v50 .undef (.bool false) fun v253 =>
j34 (v253, s3.1, s3.2.1, s3.2.2.1, ()) h52))) (
pWant v50 true (
pLoad1 h52 .undef fun v254 =>
pWant v50 true (
pInt .lss v51 v254 fun v255 =>
pPick v50 v255 (.bool false) fun v256 =>
pChk .undef none v254 h49 h52 h31.nx <|
j34 (v256, s3.1, s3.2.1, s3.2.2.1, ()) h52) (
pPick v50 .undef (.bool false) fun v257 =>
pChk .undef none v254 h49 h52 h31.nx <|
j34 (v257, s3.1, s3.2.1, s3.2.2.1, ()) h52)) (
pWant v50 true (
pInt .lss v51 .undef fun v258 =>
pPick v50 v258 (.bool false) fun v259 =>
j34 (v259, s3.1, s3.2.1, s3.2.2.1, ()) h52) (
pPick v50 .undef (.bool false) fun v260 =>
j34 (v260, s3.1, s3.2.1, s3.2.2.1, ()) h52)))) (
pWant v50 true (
pFieldA .undef 3 fun v261 =>
pWant v50 true (
pLoad1 h52 v261 fun v262 =>
pWant v50 true (
pInt .lss v51 v262 fun v263 =>
pPick v50 v263 (.bool false) fun v264 =>
pChk v261 none v262 h49 h52 h31.nx <|
j34 (v264, s3.1, s3.2.1, s3.2.2.1, ()) h52) (
pPick v50 .undef (.bool false) fun v265 =>
pChk v261 none v262 h49 h52 h31.nx <|
j34 (v265, s3.1, s3.2.1, s3.2.2.1, ()) h52)) (
pWant v50 true (
pInt .lss v51 .undef fun v266 =>
pPick v50 v266 (.bool false) fun v267 =>
j34 (v267, s3.1, s3.2.1, s3.2.2.1, ()) h52) (
pPick v50 .undef (.bool false) fun v268 =>
j34 (v268, s3.1, s3.2.1, s3.2.2.1, ()) h52))) (
pWant v50 true (
pLoad1 h52 .undef fun v269 =>
pWant v50 true (
pInt .lss v51 v269 fun v270 =>
pPick v50 v270 (.bool false) fun v271 =>
pChk .undef none v269 h49 h52 h31.nx <|
j34 (v271, s3.1, s3.2.1, s3.2.2.1, ()) h52) (
pPick v50 .undef (.bool false) fun v272 =>
pChk .undef none v269 h49 h52 h31.nx <|
j34 (v272, s3.1, s3.2.1, s3.2.2.1, ()) h52)) (
pWant v50 true (
pInt .lss v51 .undef fun v273 =>
pPick v50 v273 (.bool false) fun v274 =>
j34 (v274, s3.1, s3.2.1, s3.2.2.1, ()) h52) (
pPick v50 .undef (.bool false) fun v275 =>
j34 (v275, s3.1, s3.2.1, s3.2.2.1, ()) h52))))) (
pWant v50 true (
pFieldA .undef 0 fun v276 =>
pWant v50 true (
pFieldA v276 3 fun v277 =>
pWant v50 true (
pLoad1 h52 v277 fun v278 =>
pWant v50 true (
pInt .lss v51 v278 fun v279 =>
pPick v50 v279 (.bool false) fun v280 =>
pChk v277 none v278 h49 h52 h31.nx <|
j34 (v280, s3.1, s3.2.1, s3.2.2.1, ()) h52) (
pPick v50 .undef (.bool false) fun v281 =>
pChk v277 none v278 h49 h52 h31.nx <|
j34 (v281, s3.1, s3.2.1, s3.2.2.1, ()) h52)) (
pWant v50 true (
pInt .lss v51 .undef fun v282 =>
pPick v50 v282 (.bool false) fun v283 =>
j34 (v283, s3.1, s3.2.1, s3.2.2.1, ()) h52) (
pPick v50 .undef (.bool false) fun v284 =>
j34 (v284, s3.1, s3.2.1, s3.2.2.1, ()) h52))) (
pWant v50 true (
pLoad1 h52 .undef fun v285 =>
pWant v50 true (
pInt .lss v51 v285 fun v286 =>
pPick v50 v286 (.bool false) fun v287 =>
pChk .undef none v285 h49 h52 h31.nx <|
j34 (v287, s3.1, s3.2.1, s3.2.2.1, ()) h52) (
pPick v50 .undef (.bool false) fun v288 =>
pChk .undef none v285 h49 h52 h31.nx <|
j34 (v288, s3.1, s3.2.1, s3.2.2.1, ()) h52)) (
pWant v50 true (
pInt .lss v51 .undef fun v289 =>
pPick v50 v289 (.bool false) fun v290 =>
j34 (v290, s3.1, s3.2.1, s3.2.2.1, ()) h52) (
pPick v50 .undef (.bool false) fun v291 =>
j34 (v291, s3.1, s3.2.1, s3.2.2.1, ()) h52)))) (
pWant v50 true (
pFieldA .undef 3 fun v292 =>
pWant v50 true (
pLoad1 h52 v292 fun v293 =>
pWant v50 true (
pInt .lss v51 v293 fun v294 =>
pPick v50 v294 (.bool false) fun v295 =>
pChk v292 none v293 h49 h52 h31.nx <|
j34 (v295, s3.1, s3.2.1, s3.2.2.1, ()) h52) (
pPick v50 .undef (.bool false) fun v296 =>
pChk v292 none v293 h49 h52 h31.nx <|
j34 (v296, s3.1, s3.2.1, s3.2.2.1, ()) h52)) (
pWant v50 true (
pInt .lss v51 .undef fun v297 =>
pPick v50 v297 (.bool false) fun v298 =>
j34 (v298, s3.1, s3.2.1, s3.2.2.1, ()) h52) (
pPick v50 .undef (.bool false) fun v299 =>
j34 (v299, s3.1, s3.2.1, s3.2.2.1, ()) h52))) (
pWant v50 true (
pLoad1 h52 .undef fun v300 =>
pWant v50 true (
pInt .lss v51 v300 fun v301 =>
pPick v50 v301 (.bool false) fun v302 =>
pChk .undef none v300 h49 h52 h31.nx <|
j34 (v302, s3.1, s3.2.1, s3.2.2.1, ()) h52) (
pPick v50 .undef (.bool false) fun v303 =>
pChk .undef none v300 h49 h52 h31.nx <|
j34 (v303, s3.1, s3.2.1, s3.2.2.1, ()) h52)) (
pWant v50 true (
pInt .lss v51 .undef fun v304 =>
pPick v50 v304 (.bool false) fun v305 =>
j34 (v305, s3.1, s3.2.1, s3.2.2.1, ()) h52) (
pPick v50 .undef (.bool false) fun v306 =>
j34 (v306, s3.1, s3.2.1, s3.2.2.1, ()) h52)))))))) (
pWant v50 true (
pWant v50 true (
pNil s3.2.2.1 fun v307 =>
pWant v50 true (
pFieldA v307 1 fun v308 =>
pWant v50 true (
pFieldA v308 0 fun v309 =>
pWant v50 true (
pFieldA v309 3 fun v310 =>
pWant v50 true (
pLoad1 h49 v310 fun v311 =>
pWant v50 true (
pInt .lss .undef v311 fun v312 =>
pPick v50 v312 (.bool false) fun v313 =>
j34 (v313, s3.1, s3.2.1, s3.2.2.1, ()) h49) (
pPick v50 .undef (.bool false) fun v314 =>
j34 (v314, s3.1, s3.2.1, s3.2.2.1, ()) h49)) (
pWant v50 true (
pInt .lss .undef .undef fun v315 =>
pPick v50 v315 (.bool false) fun v316 =>
j34 (v316, s3.1, s3.2.1, s3.2.2.1, ()) h49) (
pPick v50 .undef (.bool false) fun v317 =>
j34 (v317, s3.1, s3.2.1, s3.2.2.1, ()) h49))) (
pWant v50 true (
pLoad1 h49 .undef fun v318 =>
pWant v50 true (
pInt .lss .undef v318 fun v319 =>
pPick v50 v319 (.bool false) fun v320 =>
j34 (v320, s3.1, s3.2.1, s3.2.2.1, ()) h49) (
pPick v50 .undef (.bool false) fun v321 =>
j34 (v321, s3.1, s3.2.1, s3.2.2.1, ()) h49)) (
pWant v50 true (
pInt .lss .undef .undef fun v322 =>
pPick v50 v322 (.bool false) fun v323 =>
j34 (v323, s3.1, s3.2.1, s3.2.2.1, ()) h49) (
pPick v50 .undef (.bool false) fun v324 =>
j34 (v324, s3.1, s3.2.1, s3.2.2.1, ()) h49)))) (
pWant v50 true (
pFieldA .undef 3 fun v325 =>
pWant v50 true (
pLoad1 h49 v325 fun v326 =>
pWant v50 true (
pInt .lss .undef v326 fun v327 =>
pPick v50 v327 (.bool false) fun v328 =>
j34 (v328, s3.1, s3.2.1, s3.2.2.1, ()) h49) (
pPick v50 .undef (.bool false) fun v329 =>
j34 (v329, s3.1, s3.2.1, s3.2.2.1, ()) h49)) (
pWant v50 true (
pInt .lss .undef .undef fun v330 =>
pPick v50 v330 (.bool false) fun v331 =>
j34 (v331, s3.1, s3.2.1, s3.2.2.1, ()) h49) (
pPick v50 .undef (.bool false) fun v332 =>
j34 (v332, s3.1, s3.2.1, s3.2.2.1, ()) h49))) (
pWant v50 true (
pLoad1 h49 .undef fun v333 =>
pWant v50 true (
pInt .lss .undef v333 fun v334 =>
pPick v50 v334 (.bool false) fun v335 =>
j34 (v335, s3.1, s3.2.1, s3.2.2.1, ()) h49) (
pPick v50 .undef (.bool false) fun v336 =>
j34 (v336, s3.1, s3.2.1, s3.2.2.1, ()) h49)) (
pWant v50 true (
pInt .lss .undef .undef fun v337 =>
pPick v50 v337 (.bool false) fun v338 =>
j34 (v338, s3.1, s3.2.1, s3.2.2.1, ()) h49) (
pPick v50 .undef (.bool false) fun v339 =>
j34 (v339, s3.1, s3.2.1, s3.2.2.1, ()) h49))))) (
pWant v50 true (
pFieldA .undef 0 fun v340 =>
pWant v50 true (
pFieldA v340 3 fun v341 =>
pWant v50 true (
pLoad1 h49 v341 fun v342 =>
pWant v50 true (
pInt .lss .undef v342 fun v343 =>
pPick v50 v343 (.bool false) fun v344 =>
j34 (v344, s3.1, s3.2.1, s3.2.2.1, ()) h49) (
pPick v50 .undef (.bool false) fun v345 =>
j34 (v345, s3.1, s3.2.1, s3.2.2.1, ()) h49)) (
pWant v50 true (
pInt .lss .undef .undef fun v346 =>
pPick v50 v346 (.bool false) fun v347 =>
j34 (v347, s3.1, s3.2.1, s3.2.2.1, ()) h49) (
pPick v50 .undef (.bool false) fun v348 =>
j34 (v348, s3.1, s3.2.1, s3.2.2.1, ()) h49))) (
pWant v50 true (
pLoad1 h49 .undef fun v349 =>
pWant v50 true (
pInt .lss .undef v349 fun v350 =>
pPick v50 v350 (.bool false) fun v351 =>
j34 (v351, s3.1, s3.2.1, s3.2.2.1, ()) h49) (
pPick v50 .undef (.bool false) fun v352 =>
j34 (v352, s3.1, s3.2.1, s3.2.2.1, ()) h49)) (
pWant v50 true (
pInt .lss .undef .undef fun v353 =>
pPick v50 v353 (.bool false) fun v354 =>
j34 (v354, s3.1, s3.2.1, s3.2.2.1, ()) h49) (
pPick v50 .undef (.bool false) fun v355 =>
j34 (v355, s3.1, s3.2.1, s3.2.2.1, ()) h49)))) (
pWant v50 true (
pFieldA .undef 3 fun v356 =>
pWant v50 true (
pLoad1 h49 v356 fun v357 =>
pWant v50 true (
pInt .lss .undef v357 fun v358 =>
pPick v50 v358 (.bool false) fun v359 =>
j34 (v359, s3.1, s3.2.1, s3.2.2.1, ()) h49) (
pPick v50 .undef (.bool false) fun v360 =>
j34 (v360, s3.1, s3.2.1, s3.2.2.1, ()) h49)) (
pWant v50 true (
pInt .lss .undef .undef fun v361 =>
pPick v50 v361 (.bool false) fun v362 =>
j34 (v362, s3.1, s3.2.1, s3.2.2.1, ()) h49) (
pPick v50 .undef (.bool false) fun v363 =>
j34 (v363, s3.1, s3.2.1, s3.2.2.1, ()) h49))) (
pWant v50 true (
pLoad1 h49 .undef fun v364 =>
pWant v50 true (
pInt .lss .undef v364 fun v365 =>
pPick v50 v365 (.bool false) fun v366 =>
j34 (v366, s3.1, s3.2.1, s3.2.2.1, ()) h49) (
pPick v50 .undef (.bool false) fun v367 =>
j34 (v367, s3.1, s3.2.1, s3.2.2.1, ()) h49)) (
pWant v50 true (
pInt .lss .undef .undef fun v368 =>
pPick v50 v368 (.bool false) fun v369 =>
j34 (v369, s3.1, s3.2.1, s3.2.2.1, ()) h49) (
pPick v50 .undef (.bool false) fun v370 =>
j34 (v370, s3.1, s3.2.1, s3.2.2.1, ()) h49)))))) (
pWant v50 true (
pFieldA .undef 1 fun v371 =>
pWant v50 true (
pFieldA v371 0 fun v372 =>
pWant v50 true (
pFieldA v372 3 fun v373 =>
pWant v50 true (
pLoad1 h49 v373 fun v374 =>
pWant v50 true (
pInt .lss .undef v374 fun v375 =>
pPick v50 v375 (.bool false) fun v376 =>
j34 (v376, s3.1, s3.2.1, s3.2.2.1, ()) h49) (
pPick v50 .undef (.bool false) fun v377 =>
j34 (v377, s3.1, s3.2.1, s3.2.2.1, ()) h49)) (
pWant v50 true (
pInt .lss .undef .undef fun v378 =>
pPick v50 v378 (.bool false) fun v379 =>
j34 (v379, s3.1, s3.2.1, s3.2.2.1, ()) h49) (
pPick v50 .undef (.bool false) fun v380 =>
j34 (v380, s3.1, s3.2.1, s3.2.2.1, ()) h49))) (
pWant v50 true (
pLoad1 h49 .undef fun v381 =>
pWant v50 true (
pInt .lss .undef v381 fun v382 =>
pPick v50 v382 (.bool false) fun v383 =>
j34 (v383, s3.1, s3.2.1, s3.2.2.1, ()) h49) (
pPick v50 .undef (.bool false) fun v384 =>
j34 (v384, s3.1, s3.2.1, s3.2.2.1, ()) h49)) (
pWant v50 true (
pInt .lss .undef .undef fun v385 =>
pPick v50 v385 (.bool false) fun v386 =>
j34 (v386, s3.1, s3.2.1, s3.2.2.1, ()) h49) (
pPick v50 .undef (.bool false) fun v387 =>
j34 (v387, s3.1, s3.2.1, s3.2.2.1, ()) h49)))) (
pWant v50 true (
pFieldA .undef 3 fun v388 =>
pWant v50 true (
pLoad1 h49 v388 fun v389 =>
pWant v50 true (
pInt .lss .undef v389 fun v390 =>
pPick v50 v390 (.bool false) fun v391 =>
j34 (v391, s3.1, s3.2.1, s3.2.2.1, ()) h49) (
pPick v50 .undef (.bool false) fun v392 =>
j34 (v392, s3.1, s3.2.1, s3.2.2.1, ()) h49)) (
pWant v50 true (
pInt .lss .undef .undef fun v393 =>
pPick v50 v393 (.bool false) fun v394 =>
j34 (v394, s3.1, s3.2.1, s3.2.2.1, ()) h49) (
pPick v50 .undef (.bool false) fun v395 =>
j34 (v395, s3.1, s3.2.1, s3.2.2.1, ()) h49))) (
pWant v50 true (
pLoad1 h49 .undef fun v396 =>
pWant v50 true (
pInt .lss .undef v396 fun v397 =>
pPick v50 v397 (.bool false) fun v398 =>
j34 (v398, s3.1, s3.2.1, s3.2.2.1, ()) h49) (
pPick v50 .undef (.bool false) fun v399 =>
j34 (v399, s3.1, s3.2.1, s3.2.2.1, ()) h49)) (
pWant v50 true (
pInt .lss .undef .undef fun v400 =>
pPick v50 v400 (.bool false) fun v401 =>
j34 (v401, s3.1, s3.2.1, s3.2.2.1, ()) h49) (
pPick v50 .undef (.bool false) fun v402 =>
j34 (v402, s3.1, s3.2.1, s3.2.2.1, ()) h49))))) (
pWant v50 true (
pFieldA .undef 0 fun v403 =>
pWant v50 true (
pFieldA v403 3 fun v404 =>
pWant v50 true (
pLoad1 h49 v404 fun v405 =>
pWant v50 true (
pInt .lss .undef v405 fun v406 =>
pPick v50 v406 (.bool false) fun v407 =>
j34 (v407, s3.1, s3.2.1, s3.2.2.1, ()) h49) (
pPick v50 .undef (.bool false) fun v408 =>
j34 (v408, s3.1, s3.2.1, s3.2.2.1, ()) h49)) (
pWant v50 true (
pInt .lss .undef .undef fun v409 =>
pPick v50 v409 (.bool false) fun v410 =>
j34 (v410, s3.1, s3.2.1, s3.2.2.1, ()) h49) (
pPick v50 .undef (.bool false) fun v411 =>
j34 (v411, s3.1, s3.2.1, s3.2.2.1, ()) h49))) (
pWant v50 true (
pLoad1 h49 .undef fun v412 =>
pWant v50 true (
pInt .lss .undef v412 fun v413 =>
pPick v50 v413 (.bool false) fun v414 =>
j34 (v414, s3.1, s3.2.1, s3.2.2.1, ()) h49) (
pPick v50 .undef (.bool false) fun v415 =>
j34 (v415, s3.1, s3.2.1, s3.2.2.1, ()) h49)) (
pWant v50 true (
pInt .lss .undef .undef fun v416 =>
pPick v50 v416 (.bool false) fun v417 =>
j34 (v417, s3.1, s3.2.1, s3.2.2.1, ()) h49) (
pPick v50 .undef (.bool false) fun v418 =>
j34 (v418, s3.1, s3.2.1, s3.2.2.1, ()) h49)))) (
pWant v50 true (
pFieldA .undef 3 fun v419 =>
pWant v50 true (
pLoad1 h49 v419 fun v420 =>
pWant v50 true (
pInt .lss .undef v420 fun v421 =>
pPick v50 v421 (.bool false) fun v422 =>
j34 (v422, s3.1, s3.2.1, s3.2.2.1, ()) h49) (
pPick v50 .undef (.bool false) fun v423 =>
j34 (v423, s3.1, s3.2.1, s3.2.2.1, ()) h49)) (
pWant v50 true (
pInt .lss .undef .undef fun v424 =>
pPick v50 v424 (.bool false) fun v425 =>
j34 (v425, s3.1, s3.2.1, s3.2.2.1, ()) h49) (
pPick v50 .undef (.bool false) fun v426 =>
j34 (v426, s3.1, s3.2.1, s3.2.2.1, ()) h49))) (
pWant v50 true (
pLoad1 h49 .undef fun v427 =>
pWant v50 true (
pInt .lss .undef v427 fun v428 =>
pPick v50 v428 (.bool false) fun v429 =>
j34 (v429, s3.1, s3.2.1, s3.2.2.1, ()) h49) (
pPick v50 .undef (.bool false) fun v430 =>
j34 (v430, s3.1, s3.2.1, s3.2.2.1, ()) h49)) (
pWant v50 true (
pInt .lss .undef .undef fun v431 =>
pPick v50 v431 (.bool false) fun v432 =>
j34 (v432, s3.1, s3.2.1, s3.2.2.1, ()) h49) (
pPick v50 .undef (.bool false) fun v433 =>
j34 (v433, s3.1, s3.2.1, s3.2.2.1, ()) h49))))))) (
pWant v50 true (
pNil .undef fun v434 =>
pWant v50 true (
pFieldA v434 1 fun v435 =>
pWant v50 true (
pFieldA v435 0 fun v436 =>
pWant v50 true (
pFieldA v436 3 fun v437 =>
pWant v50 true (
pLoad1 h49 v437 fun v438 =>
pWant v50 true (
pInt .lss .undef v438 fun v439 =>
pPick v50 v439 (.bool false) fun v440 =>
j34 (v440, s3.1, s3.2.1, s3.2.2.1, ()) h49) (
pPick v50 .undef (.bool false) fun v441 =>
j34 (v441, s3.1, s3.2.1, s3.2.2.1, ()) h49)) (
pWant v50 true (
pInt .lss .undef .undef fun v442 =>
pPick v50 v442 (.bool false) fun v443 =>
j34 (v443, s3.1, s3.2.1, s3.2.2.1, ()) h49) (
pPick v50 .undef (.bool false) fun v444 =>
j34 (v444, s3.1, s3.2.1, s3.2.2.1, ()) h49))) (
pWant v50 true (
pLoad1 h49 .undef fun v445 =>
pWant v50 true (
pInt .lss .undef v445 fun v446 =>
pPick v50 v446 (.bool false) fun v447 =>
j34 (v447, s3.1, s3.2.1, s3.2.2.1, ()) h49) (
pPick v50 .undef (.bool false) fun v448 =>
j34 (v448, s3.1, s3.2.1, s3.2.2.1, ()) h49)) (
pWant v50 true (
pInt .lss .undef .undef fun v449 =>
pPick v50 v449 (.bool false) fun v450 =>
j34 (v450, s3.1, s3.2.1, s3.2.2.1, ()) h49) (
pPick v50 .undef (.bool false) fun v451 =>
j34 (v451, s3.1, s3.2.1, s3.2.2.1, ()) h49)))) (
pWant v50 true (
pFieldA .undef 3 fun v452 =>
pWant v50 true (
pLoad1 h49 v452 fun v453 =>
pWant v50 true (
pInt .lss .undef v453 fun v454 =>
pPick v50 v454 (.bool false) fun v455 =>
j34 (v455, s3.1, s3.2.1, s3.2.2.1, ()) h49) (
pPick v50 .undef (.bool false) fun v456 =>
j34 (v456, s3.1, s3.2.1, s3.2.2.1, ()) h49)) (
pWant v50 true (
pInt .lss .undef .undef fun v457 =>
pPick v50 v457 (.bool false) fun v458 =>
j34 (v458, s3.1, s3.2.1, s3.2.2.1, ()) h49) (
pPick v50 .undef (.bool false) fun v459 =>
j34 (v459, s3.1, s3.2.1, s3.2.2.1, ()) h49))) (
pWant v50 true (
pLoad1 h49 .undef fun v460 =>
pWant v50 true (
pInt .lss .undef v460 fun v461 =>
pPick v50 v461 (.bool false) fun v462 =>
j34 (v462, s3.1, s3.2.1, s3.2.2.1, ()) h49) (
pPick v50 .undef (.bool false) fun v463 =>
j34 (v463, s3.1, s3.2.1, s3.2.2.1, ()) h49)) (
pWant v50 true (
pInt .lss .undef .undef fun v464 =>
pPick v50 v464 (.bool false) fun v465 =>
j34 (v465, s3.1, s3.2.1, s3.2.2.1, ()) h49) (
pPick v50 .undef (.bool false) fun v466 =>
j34 (v466, s3.1, s3.2.1, s3.2.2.1, ()) h49))))) (
pWant v50 true (
pFieldA .undef 0 fun v467 =>
pWant v50 true (
pFieldA v467 3 fun v468 =>
pWant v50 true (
pLoad1 h49 v468 fun v469 =>
pWant v50 true (
pInt .lss .undef v469 fun v470 =>
pPick v50 v470 (.bool false) fun v471 =>
j34 (v471, s3.1, s3.2.1, s3.2.2.1, ()) h49) (
pPick v50 .undef (.bool false) fun v472 =>
j34 (v472, s3.1, s3.2.1, s3.2.2.1, ()) h49)) (
pWant v50 true (
pInt .lss .undef .undef fun v473 =>
pPick v50 v473 (.bool false) fun v474 =>
j34 (v474, s3.1, s3.2.1, s3.2.2.1, ()) h49) (
pPick v50 .undef (.bool false) fun v475 =>
j34 (v475, s3.1, s3.2.1, s3.2.2.1, ()) h49))) (
pWant v50 true (
pLoad1 h49 .undef fun v476 =>
pWant v50 true (
pInt .lss .undef v476 fun v477 =>
pPick v50 v477 (.bool false) fun v478 =>
j34 (v478, s3.1, s3.2.1, s3.2.2.1, ()) h49) (
pPick v50 .undef (.bool false) fun v479 =>
j34 (v479, s3.1, s3.2.1, s3.2.2.1, ()) h49)) (
pWant v50 true (
pInt .lss .undef .undef fun v480 =>
pPick v50 v480 (.bool false) fun v481 =>
j34 (v481, s3.1, s3.2.1, s3.2.2.1, ()) h49) (
pPick v50 .undef (.bool false) fun v482 =>
j34 (v482, s3.1, s3.2.1, s3.2.2.1, ()) h49)))) (
pWant v50 true (
pFieldA .undef 3 fun v483 =>
pWant v50 true (
pLoad1 h49 v483 fun v484 =>
pWant v50 true (
pInt .lss .undef v484 fun v485 =>
pPick v50 v485 (.bool false) fun v486 =>
j34 (v486, s3.1, s3.2.1, s3.2.2.1, ()) h49) (
pPick v50 .undef (.bool false) fun v487 =>
j34 (v487, s3.1, s3.2.1, s3.2.2.1, ()) h49)) (
pWant v50 true (
pInt .lss .undef .undef fun v488 =>
pPick v50 v488 (.bool false) fun v489 =>
j34 (v489, s3.1, s3.2.1, s3.2.2.1, ()) h49) (
pPick v50 .undef (.bool false) fun v490 =>
j34 (v490, s3.1, s3.2.1, s3.2.2.1, ()) h49))) (
pWant v50 true (
pLoad1 h49 .undef fun v491 =>
pWant v50 true (
pInt .lss .undef v491 fun v492 =>
pPick v50 v492 (.bool false) fun v493 =>
j34 (v493, s3.1, s3.2.1, s3.2.2.1, ()) h49) (
pPick v50 .undef (.bool false) fun v494 =>
j34 (v494, s3.1, s3.2.1, s3.2.2.1, ()) h49)) (
pWant v50 true (
pInt .lss .undef .undef fun v495 =>
pPick v50 v495 (.bool false) fun v496 =>
j34 (v496, s3.1, s3.2.1, s3.2.2.1, ()) h49) (
pPick v50 .undef (.bool false) fun v497 =>
j34 (v497, s3.1, s3.2.1, s3.2.2.1, ()) h49)))))) (
pWant v50 true (
pFieldA .undef 1 fun v498 =>
pWant v50 true (
pFieldA v498 0 fun v499 =>
pWant v50 true (
pFieldA v499 3 fun v500 =>
pWant v50 true (
pLoad1 h49 v500 fun v501 =>
pWant v50 true (
pInt .lss .undef v501 fun v502 =>
pPick v50 v502 (.bool false) fun v503 =>
j34 (v503, s3.1, s3.2.1, s3.2.2.1, ()) h49) (
pPick v50 .undef (.bool false) fun v504 =>
j34 (v504, s3.1, s3.2.1, s3.2.2.1, ()) h49)) (
pWant v50 true (
pInt .lss .undef .undef fun v505 =>
pPick v50 v505 (.bool false) fun v506 =>
j34 (v506, s3.1, s3.2.1, s3.2.2.1, ()) h49) (
pPick v50 .undef (.bool false) fun v507 =>
j34 (v507, s3.1, s3.2.1, s3.2.2.1, ()) h49))) (
pWant v50 true (
pLoad1 h49 .undef fun v508 =>
pWant v50 true (
pInt .lss .undef v508 fun v509 =>
pPick v50 v509 (.bool false) fun v510 =>
j34 (v510, s3.1, s3.2.1, s3.2.2.1, ()) h49) (
pPick v50 .undef (.bool false) fun v511 =>
j34 (v511, s3.1, s3.2.1, s3.2.2.1, ()) h49)) (
pWant v50 true (
pInt .lss .undef .undef fun v512 =>
pPick v50 v512 (.bool false) fun v513 =>
j34 (v513, s3.1, s3.2.1, s3.2.2.1, ()) h49) (
pPick v50 .undef (.bool false) fun v514 =>
j34 (v514, s3.1, s3.2.1, s3.2.2.1, ()) h49)))) (
pWant v50 true (
pFieldA .undef 3 fun v515 =>
pWant v50 true (
pLoad1 h49 v515 fun v516 =>
pWant v50 true (
pInt .lss .undef v516 fun v517 =>
pPick v50 v517 (.bool false) fun v518 =>
j34 (v518, s3.1, s3.2.1, s3.2.2.1, ()) h49) (
pPick v50 .undef (.bool false) fun v519 =>
j34 (v519, s3.1, s3.2.1, s3.2.2.1, ()) h49)) (
pWant v50 true (
pInt .lss .undef .undef fun v520 =>
pPick v50 v520 (.bool false) fun v521 =>
j34 (v521, s3.1, s3.2.1, s3.2.2.1, ()) h49) (
pPick v50 .undef (.bool false) fun v522 =>
j34 (v522, s3.1, s3.2.1, s3.2.2.1, ()) h49))) (
pWant v50 true (
pLoad1 h49 .undef fun v523 =>
pWant v50 true (
pInt .lss .undef v523 fun v524 =>
pPick v50 v524 (.bool false) fun v525 =>
j34 (v525, s3.1, s3.2.1, s3.2.2.1, ()) h49) (
pPick v50 .undef (.bool false) fun v526 =>
j34 (v526, s3.1, s3.2.1, s3.2.2.1, ()) h49)) (
pWant v50 true (
pInt .lss .undef .undef fun v527 =>
pPick v50 v527 (.bool false) fun v528 =>
j34 (v528, s3.1, s3.2.1, s3.2.2.1, ()) h49) (
pPick v50 .undef (.bool false) fun v529 =>
j34 (v529, s3.1, s3.2.1, s3.2.2.1, ()) h49))))) (
pWant v50 true (
pFieldA .undef 0 fun v530 =>
pWant v50 true (
pFieldA v530 3 fun v531 =>
pWant v50 true (
pLoad1 h49 v531 fun v532 =>
pWant v50 true (
pInt .lss .undef v532 fun v533 =>
pPick v50 v533 (.bool false) fun v534 =>
j34 (v534, s3.1, s3.2.1, s3.2.2.1, ()) h49) (
pPick v50 .undef (.bool false) fun v535 =>
j34 (v535, s3.1, s3.2.1, s3.2.2.1, ()) h49)) (
pWant v50 true (
pInt .lss .undef .undef fun v536 =>
pPick v50 v536 (.bool false) fun v537 =>
j34 (v537, s3.1, s3.2.1, s3.2.2.1, ()) h49) (
pPick v50 .undef (.bool false) fun v538 =>
j34 (v538, s3.1, s3.2.1, s3.2.2.1, ()) h49))) (
pWant v50 true (
pLoad1 h49 .undef fun v539 =>
pWant v50 true (
pInt .lss .undef v539 fun v540 =>
pPick v50 v540 (.bool false) fun v541 =>
j34 (v541, s3.1, s3.2.1, s3.2.2.1, ()) h49) (
pPick v50 .undef (.bool false) fun v542 =>
j34 (v542, s3.1, s3.2.1, s3.2.2.1, ()) h49)) (
pWant v50 true (
pInt .lss .undef .undef fun v543 =>
pPick v50 v543 (.bool false) fun v544 =>
j34 (v544, s3.1, s3.2.1, s3.2.2.1, ()) h49) (
pPick v50 .undef (.bool false) fun v545 =>
j34 (v545, s3.1, s3.2.1, s3.2.2.1, ()) h49)))) (
pWant v50 true (
pFieldA .undef 3 fun v546 =>
pWant v50 true (
pLoad1 h49 v546 fun v547 =>
pWant v50 true (
pInt .lss .undef v547 fun v548 =>
pPick v50 v548 (.bool false) fun v549 =>
j34 (v549, s3.1, s3.2.1, s3.2.2.1, ()) h49) (
pPick v50 .undef (.bool false) fun v550 =>
j34 (v550, s3.1, s3.2.1, s3.2.2.1, ()) h49)) (
pWant v50 true (
pInt .lss .undef .undef fun v551 =>
pPick v50 v551 (.bool false) fun v552 =>
j34 (v552, s3.1, s3.2.1, s3.2.2.1, ()) h49) (
pPick v50 .undef (.bool false) fun v553 =>
j34 (v553, s3.1, s3.2.1, s3.2.2.1, ()) h49))) (
pWant v50 true (
pLoad1 h49 .undef fun v554 =>
pWant v50 true (
pInt .lss .undef v554 fun v555 =>
pPick v50 v555 (.bool false) fun v556 =>
j34 (v556, s3.1, s3.2.1, s3.2.2.1, ()) h49) (
pPick v50 .undef (.bool false) fun v557 =>
j34 (v557, s3.1, s3.2.1, s3.2.2.1, ()) h49)) (
pWant v50 true (
pInt .lss .undef .undef fun v558 =>
pPick v50 v558 (.bool false) fun v559 =>
j34 (v559, s3.1, s3.2.1, s3.2.2.1, ()) h49) (
pPick v50 .undef (.bool false) fun v560 =>
j34 (v560, s3.1, s3.2.1, s3.2.2.1, ()) h49))))))))) (
pWant v50 true (
pCall c (.fn 41 [] []) [.undef] h49 fun v561 h562 =>
pWant v50 true (
pWant v50 true (
pNil s3.2.2.1 fun v563 =>
pWant v50 true (
pFieldA v563 1 fun v564 =>
pWant v50 true (
pFieldA v564 0 fun v565 =>
pWant v50 true (
pFieldA v565 3 fun v566 =>
pWant v50 true (
pLoad1 h562 v566 fun v567 =>
pWant v50 true (
pInt .lss v561 v567 fun v568 =>
pPick v50 v568 (.bool false) fun v569 =>
pChk v566 none v567 h49 h562 h31.nx <|
j34 (v569, s3.1, s3.2.1, s3.2.2.1, ()) h562) (
pPick v50 .undef (.bool false) fun v570 =>
pChk v566 none v567 h49 h562 h31.nx <|
j34 (v570, s3.1, s3.2.1, s3.2.2.1, ()) h562)) (
pWant v50 true (
pInt .lss v561 .undef fun v571 =>
pPick v50 v571 (.bool false) fun v572 =>
j34 (v572, s3.1, s3.2.1, s3.2.2.1, ()) h562) (
pPick v50 .undef (.bool false) fun v573 =>
j34 (v573, s3.1, s3.2.1, s3.2.2.1, ()) h562))) (
pWant v50 true (
pLoad1 h562 .undef fun v574 =>
pWant v50 true (
pInt .lss v561 v574 fun v575 =>
pPick v50 v575 (.bool false) fun v576 =>
pChk .undef none v574 h49 h562 h31.nx <|
j34 (v576, s3.1, s3.2.1, s3.2.2.1, ()) h562) (
pPick v50 .undef (.bool false) fun v577 =>
pChk .undef none v574 h49 h562 h31.nx <|
j34 (v577, s3.1, s3.2.1, s3.2.2.1, ()) h562)) (
pWant v50 true (
pInt .lss v561 .undef fun v578 =>
pPick v50 v578 (.bool false) fun v579 =>
j34 (v579, s3.1, s3.2.1, s3.2.2.1, ()) h562) (
pPick v50 .undef (.bool false) fun v580 =>
j34 (v580, s3.1, s3.2.1, s3.2.2.1, ()) h562)))) (
pWant v50 true (
pFieldA .undef 3 fun v581 =>
pWant v50 true (
pLoad1 h562 v581 fun v582 =>
pWant v50 true (
pInt .lss v561 v582 fun v583 =>
pPick v50 v583 (.bool false) fun v584 =>
pChk v581 none v582 h49 h562 h31.nx <|
j34 (v584, s3.1, s3.2.1, s3.2.2.1, ()) h562) (
pPick v50 .undef (.bool false) fun v585 =>
pChk v581 none v582 h49 h562 h31.nx <|
j34 (v585, s3.1, s3.2.1, s3.2.2.1, ()) h562)) (
pWant v50 true (
pInt .lss v561 .undef fun v586 =>
pPick v50 v586 (.bool false) fun v587 =>
j34 (v587, s3.1, s3.2.1, s3.2.2.1, ()) h562) (
pPick v50 .undef (.bool false) fun v588 =>
j34 (v588, s3.1, s3.2.1, s3.2.2.1, ()) h562))) (
pWant v50 true (
pLoad1 h562 .undef fun v589 =>
pWant v50 true (
pInt .lss v561 v589 fun v590 =>
pPick v50 v590 (.bool false) fun v591 =>
pChk .undef none v589 h49 h562 h31.nx <|
j34 (v591, s3.1, s3.2.1, s3.2.2.1, ()) h562) (
pPick v50 .undef (.bool false) fun v592 =>
pChk .undef none v589 h49 h562 h31.nx <|
j34 (v592, s3.1, s3.2.1, s3.2.2.1, ()) h562)) (
pWant v50 true (
pInt .lss v561 .undef fun v593 =>
pPick v50 v593 (.bool false) fun v594 =>
j34 (v594, s3.1, s3.2.1, s3.2.2.1, ()) h562) (
pPick v50 .undef (.bool false) fun v595 =>
j34 (v595, s3.1, s3.2.1, s3.2.2.1, ()) h562))))) (
pWant v50 true (
pFieldA .undef 0 fun v596 =>
pWant v50 true (
pFieldA v596 3 fun v597 =>
pWant v50 true (
pLoad1 h562 v597 fun v598 =>
pWant v50 true (
pInt .lss v561 v598 fun v599 =>
pPick v50 v599 (.bool false) fun v600 =>
pChk v597 none v598 h49 h562 h31.nx <|
j34 (v600, s3.1, s3.2.1, s3.2.2.1, ()) h562) (
pPick v50 .undef (.bool false) fun v601 =>
pChk v597 none v598 h49 h562 h31.nx <|
j34 (v601, s3.1, s3.2.1, s3.2.2.1, ()) h562)) (
pWant v50 true (
pInt .lss v561 .undef fun v602 =>
pPick v50 v602 (.bool false) fun v603 =>
j34 (v603, s3.1, s3.2.1, s3.2.2.1, ()) h562) (
pPick v50 .undef (.bool false) fun v604 =>
j34 (v604, s3.1, s3.2.1, s3.2.2.1, ()) h562))) (
pWant v50 true (
pLoad1 h562 .undef fun v605 =>
pWant v50 true (
pInt .lss v561 v605 fun v606 =>
pPick v50 v606 (.bool false) fun v607 =>
pChk .undef none v605 h49 h562 h31.nx <|
j34 (v607, s3.1, s3.2.1, s3.2.2.1, ()) h562) (
pPick v50 .undef (.bool false) fun v608 =>
pChk .undef none v605 h49 h562 h31.nx <|
j34 (v608, s3.1, s3.2.1, s3.2.2.1, ()) h562)) (
pWant v50 true (
pInt .lss v561 .undef fun v609 =>
pPick v50 v609 (.bool false) fun v610 =>
j34 (v610, s3.1, s3.2.1, s3.2.2.1, ()) h562) (
pPick v50 .undef (.bool false) fun v611 =>
j34 (v611, s3.1, s3.2.1, s3.2.2.1, ()) h562)))) (
pWant v50 true (
pFieldA .undef 3 fun v612 =>
pWant v50 true (
pLoad1 h562 v612 fun v613 =>
pWant v50 true (
pInt .lss v561 v613 fun v614 =>
pPick v50 v614 (.bool false) fun v615 =>
pChk v612 none v613 h49 h562 h31.nx <|
j34 (v615, s3.1, s3.2.1, s3.2.2.1, ()) h562) (
pPick v50 .undef (.bool false) fun v616 =>
pChk v612 none v613 h49 h562 h31.nx <|
j34 (v616, s3.1, s3.2.1, s3.2.2.1, ()) h562)) (
pWant v50 true (
pInt .lss v561 .undef fun v617 =>
pPick v50 v617 (.bool false) fun v618 =>
j34 (v618, s3.1, s3.2.1, s3.2.2.1, ()) h562) (
pPick v50 .undef (.bool false) fun v619 =>
j34 (v619, s3.1, s3.2.1, s3.2.2.1, ()) h562))) (
pWant v50 true (
pLoad1 h562 .undef fun v620 =>
pWant v50 true (
pInt .lss v561 v620 fun v621 =>
pPick v50 v621 (.bool false) fun v622 =>
pChk .undef none v620 h49 h562 h31.nx <|
j34 (v622, s3.1, s3.2.1, s3.2.2.1, ()) h562) (
pPick v50 .undef (.bool false) fun v623 =>
pChk .undef none v620 h49 h562 h31.nx <|
j34 (v623, s3.1, s3.2.1, s3.2.2.1, ()) h562)) (
pWant v50 true (
pInt .lss v561 .undef fun v624 =>
pPick v50 v624 (.bool false) fun v625 =>
j34 (v625, s3.1, s3.2.1, s3.2.2.1, ()) h562) (
pPick v50 .undef (.bool false) fun v626 =>
j34 (v626, s3.1, s3.2.1, s3.2.2.1, ()) h562)))))) (
pWant v50 true (
pFieldA .undef 1 fun v627 =>
pWant v50 true (
pFieldA v627 0 fun v628 =>
pWant v50 true (
pFieldA v628 3 fun v629 =>
pWant v50 true (
pLoad1 h562 v629 fun v630 =>
pWant v50 true (
pInt .lss v561 v630 fun v631 =>
pPick v50 v631 (.bool false) fun v632 =>
pChk v629 none v630 h49 h562 h31.nx <|
j34 (v632, s3.1, s3.2.1, s3.2.2.1, ()) h562) (
pPick v50 .undef (.bool false) fun v633 =>
pChk v629 none v630 h49 h562 h31.nx <|
j34 (v633, s3.1, s3.2.1, s3.2.2.1, ()) h562)) (
pWant v50 true (
pInt .lss v561 .undef fun v634 =>
pPick v50 v634 (.bool false) fun v635 =>
j34 (v635, s3.1, s3.2.1, s3.2.2.1, ()) h562) (
pPick v50 .undef (.bool false) fun v636 =>
j34 (v636, s3.1, s3.2.1, s3.2.2.1, ()) h562))) (
pWant v50 true (
pLoad1 h562 .undef fun v637 =>
pWant v50 true (
pInt .lss v561 v637 fun v638 =>
pPick v50 v638 (.bool false) fun v639 =>
pChk .undef none v637 h49 h562 h31.nx <|
j34 (v639, s3.1, s3.2.1, s3.2.2.1, ()) h562) (
pPick v50 .undef (.bool false) fun v640 =>
pChk .undef none v637 h49 h562 h31.nx <|
j34 (v640, s3.1, s3.2.1, s3.2.2.1, ()) h562)) (
pWant v50 true (
pInt .lss v561 .undef fun v641 =>
pPick v50 v641 (.bool false) fun v642 =>
j34 (v642, s3.1, s3.2.1, s3.2.2.1, ()) h562) (
pPick v50 .undef (.bool false) fun v643 =>
j34 (v643, s3.1, s3.2.1, s3.2.2.1, ()) h562)))) (
pWant v50 true (
pFieldA .undef 3 fun v644 =>
pWant v50 true (
pLoad1 h562 v644 fun v645 =>
pWant v50 true (
pInt .lss v561 v645 fun v646 =>
pPick v50 v646 (.bool false) fun v647 =>
pChk v644 none v645 h49 h562 h31.nx <|
j34 (v647, s3.1, s3.2.1, s3.2.2.1, ()) h562) (
pPick v50 .undef (.bool false) fun v648 =>
pChk v644 none v645 h49 h562 h31.nx <|
j34 (v648, s3.1, s3.2.1, s3.2.2.1, ()) h562)) (
pWant v50 true (
pInt .lss v561 .undef fun v649 =>
pPick v50 v649 (.bool false) fun v650 =>
j34 (v650, s3.1, s3.2.1, s3.2.2.1, ()) h562) (
pPick v50 .undef (.bool false) fun v651 =>
j34 (v651, s3.1, s3.2.1, s3.2.2.1, ()) h562))) (
pWant v50 true (
pLoad1 h562 .undef fun v652 =>
pWant v50 true (
pInt .lss v561 v652 fun v653 =>
pPick v50 v653 (.bool false) fun v654 =>
pChk .undef none v652 h49 h562 h31.nx <|
j34 (v654, s3.1, s3.2.1, s3.2.2.1, ()) h562) (
pPick v50 .undef (.bool false) fun v655 =>
pChk .undef none v652 h49 h562 h31.nx <|
j34 (v655, s3.1, s3.2.1, s3.2.2.1, ()) h562)) (
pWant v50 true (
pInt .lss v561 .undef fun v656 =>
pPick v50 v656 (.bool false) fun v657 =>
j34 (v657, s3.1, s3.2.1, s3.2.2.1, ()) h562) (
pPick v50 .undef (.bool false) fun v658 =>
j34 (v658, s3.1, s3.2.1, s3.2.2.1, ()) h562))))) (
pWant v50 true (
pFieldA .undef 0 fun v659 =>
pWant v50 true (
pFieldA v659 3 fun v660 =>
pWant v50 true (
pLoad1 h562 v660 fun v661 =>
pWant v50 true (
pInt .lss v561 v661 fun v662 =>
pPick v50 v662 (.bool false) fun v663 =>
pChk v660 none v661 h49 h562 h31.nx <|
j34 (v663, s3.1, s3.2.1, s3.2.2.1, ()) h562) (
pPick v50 .undef (.bool false) fun v664 =>
pChk v660 none v661 h49 h562 h31.nx <|
j34 (v664, s3.1, s3.2.1, s3.2.2.1, ()) h562)) (
pWant v50 true (
pInt .lss v561 .undef fun v665 =>
pPick v50 v665 (.bool false) fun v666 =>
j34 (v666, s3.1, s3.2.1, s3.2.2.1, ()) h562) (
pPick v50 .undef (.bool false) fun v667 =>
j34 (v667, s3.1, s3.2.1, s3.2.2.1, ()) h562))) (
pWant v50 true (
pLoad1 h562 .undef fun v668 =>
pWant v50 true (
pInt .lss v561 v668 fun v669 =>
pPick v50 v669 (.bool false) fun v670 =>
pChk .undef none v668 h49 h562 h31.nx <|
j34 (v670, s3.1, s3.2.1, s3.2.2.1, ()) h562) (
pPick v50 .undef (.bool false) fun v671 =>
pChk .undef none v668 h49 h562 h31.nx <|
j34 (v671, s3.1, s3.2.1, s3.2.2.1, ()) h562)) (
pWant v50 true (
pInt .lss v561 .undef fun v672 =>
pPick v50 v672 (.bool false) fun v673 =>
j34 (v673, s3.1, s3.2.1, s3.2.2.1, ()) h562) (
pPick v50 .undef (.bool false) fun v674 =>
j34 (v674, s3.1, s3.2.1, s3.2.2.1, ()) h562)))) (
pWant v50 true (
pFieldA .undef 3 fun v675 =>
pWant v50 true (
pLoad1 h562 v675 fun v676 =>
pWant v50 true (
pInt .lss v561 v676 fun v677 =>
pPick v50 v677 (.bool false) fun v678 =>
pChk v675 none v676 h49 h562 h31.nx <|
j34 (v678, s3.1, s3.2.1, s3.2.2.1, ()) h562) (
pPick v50 .undef (.bool false) fun v679 =>
pChk v675 none v676 h49 h562 h31.nx <|
j34 (v679, s3.1, s3.2.1, s3.2.2.1, ()) h562)) (
pWant v50 true (
pInt .lss v561 .undef fun v680 =>
pPick v50 v680 (.bool false) fun v681 =>
j34 (v681, s3.1, s3.2.1, s3.2.2.1, ()) h562) (
pPick v50 .undef (.bool false) fun v682 =>
j34 (v682, s3.1, s3.2.1, s3.2.2.1, ()) h562))) (
pWant v50 true (
pLoad1 h562 .undef fun v683 =>
pWant v50 true (
pInt .lss v561 v683 fun v684 =>
pPick v50 v684 (.bool false) fun v685 =>
pChk .undef none v683 h49 h562 h31.nx <|
j34 (v685, s3.1, s3.2.1, s3.2.2.1, ()) h562) (
pPick v50 .undef (.bool false) fun v686 =>
pChk .undef none v683 h49 h562 h31.nx <|
j34 (v686, s3.1, s3.2.1, s3.2.2.1, ()) h562)) (
pWant v50 true (
pInt .lss v561 .undef fun v687 =>
pPick v50 v687 (.bool false) fun v688 =>
j34 (v688, s3.1, s3.2.1, s3.2.2.1, ()) h562) (
pPick v50 .undef (.bool false) fun v689 =>
j34 (v689, s3.1, s3.2.1, s3.2.2.1, ()) h562))))))) (
pWant v50 true (
pNil .undef fun v690 =>
pWant v50 true (
pFieldA v690 1 fun v691 =>
pWant v50 true (
pFieldA v691 0 fun v692 =>
pWant v50 true (
pFieldA v692 3 fun v693 =>
pWant v50 true (
pLoad1 h562 v693 fun v694 =>
pWant v50 true (
pInt .lss v561 v694 fun v695 =>
pPick v50 v695 (.bool false) fun v696 =>
pChk v693 none v694 h49 h562 h31.nx <|
j34 (v696, s3.1, s3.2.1, s3.2.2.1, ()) h562) (
pPick v50 .undef (.bool false) fun v697 =>
pChk v693 none v694 h49 h562 h31.nx <|
j34 (v697, s3.1, s3.2.1, s3.2.2.1, ()) h562)) (
pWant v50 true (
pInt .lss v561 .undef fun v698 =>
pPick v50 v698 (.bool false) fun v699 =>
j34 (v699, s3.1, s3.2.1, s3.2.2.1, ()) h562) (
pPick v50 .undef (.bool false) fun v700 =>
j34 (v700, s3.1, s3.2.1, s3.2.2.1, ()) h562))) (
pWant v50 true (
pLoad1 h562 .undef fun v701 =>
pWant v50 true (
pInt .lss v561 v701 fun v702 =>
pPick v50 v702 (.bool false) fun v703 =>
pChk .undef none v701 h49 h562 h31.nx <|
j34 (v703, s3.1, s3.2.1, s3.2.2.1, ()) h562) (
pPick v50 .undef (.bool false) fun v704 =>
pChk .undef none v701 h49 h562 h31.nx <|
j34 (v704, s3.1, s3.2.1, s3.2.2.1, ()) h562)) (
pWant v50 true (
pInt .lss v561 .undef fun v705 =>
pPick v50 v705 (.bool false) fun v706 =>
j34 (v706, s3.1, s3.2.1, s3.2.2.1, ()) h562) (
pPick v50 .undef (.bool false) fun v707 =>
j34 (v707, s3.1, s3.2.1, s3.2.2.1, ()) h562)))) (
pWant v50 true (
pFieldA .undef 3 fun v708 =>
pWant v50 true (
pLoad1 h562 v708 fun v709 =>
pWant v50 true (
pInt .lss v561 v709 fun v710 =>
pPick v50 v710 (.bool false) fun v711 =>
pChk v708 none v709 h49 h562 h31.nx <|
j34 (v711, s3.1, s3.2.1, s3.2.2.1, ()) h562) (
pPick v50 .undef (.bool false) fun v712 =>
pChk v708 none v709 h49 h562 h31.nx <|
j34 (v712, s3.1, s3.2.1, s3.2.2.1, ()) h562)) (
pWant v50 true (
pInt .lss v561 .undef fun v713 =>
pPick v50 v713 (.bool false) fun v714 =>
j34 (v714, s3.1, s3.2.1, s3.2.2.1, ()) h562) (
pPick v50 .undef (.bool false) fun v715 =>
j34 (v715, s3.1, s3.2.1, s3.2.2.1, ()) h562))) (
pWant v50 true (
pLoad1 h562 .undef fun v716 =>
pWant v50 true (
pInt .lss v561 v716 fun v717 =>
pPick v50 v717 (.bool false) fun v718 =>
pChk .undef none v716 h49 h562 h31.nx <|
j34 (v718, s3.1, s3.2.1, s3.2.2.1, ()) h562) (
pPick v50 .undef (.bool false) fun v719 =>
pChk .undef none v716 h49 h562 h31.nx <|
j34 (v719, s3.1, s3.2.1, s3.2.2.1, ()) h562)) (
pWant v50 true (
pInt .lss v561 .undef fun v720 =>
pPick v50 v720 (.bool false) fun v721 =>
j34 (v721, s3.1, s3.2.1, s3.2.2.1, ()) h562) (
pPick v50 .undef (.bool false) fun v722 =>
j34 (v722, s3.1, s3.2.1, s3.2.2.1, ()) h562))))) (
pWant v50 true (
pFieldA .undef 0 fun v723 =>
pWant v50 true (
pFieldA v723 3 fun v724 =>
pWant v50 true (
pLoad1 h562 v724 fun v725 =>
pWant v50 true (
pInt .lss v561 v725 fun v726 =>
pPick v50 v726 (.bool false) fun v727 =>
pChk v724 none v725 h49 h562 h31.nx <|
j34 (v727, s3.1, s3.2.1, s3.2.2.1, ()) h562) (
pPick v50 .undef (.bool false) fun v728 =>
pChk v724 none v725 h49 h562 h31.nx <|
j34 (v728, s3.1, s3.2.1, s3.2.2.1, ()) h562)) (
pWant v50 true (
pInt .lss v561 .undef fun v729 =>
pPick v50 v729 (.bool false) fun v730 =>
j34 (v730, s3.1, s3.2.1, s3.2.2.1, ()) h562) (
pPick v50 .undef (.bool false) fun v731 =>
j34 (v731, s3.1, s3.2.1, s3.2.2.1, ()) h562))) (
pWant v50 true (
pLoad1 h562 .undef fun v732 =>
pWant v50 true (
pInt .lss v561 v732 fun v733 =>
pPick v50 v733 (.bool false) fun v734 =>
pChk .undef none v732 h49 h562 h31.nx <|
j34 (v734, s3.1, s3.2.1, s3.2.2.1, ()) h562) (
pPick v50 .undef (.bool false) fun v735 =>
pChk .undef none v732 h49 h562 h31.nx <|
j34 (v735, s3.1, s3.2.1, s3.2.2.1, ()) h562)) (
pWant v50 true (
pInt .lss v561 .undef fun v736 =>
pPick v50 v736 (.bool false) fun v737 =>
j34 (v737, s3.1, s3.2.1, s3.2.2.1, ()) h562) (
pPick v50 .undef (.bool false) fun v738 =>
j34 (v738, s3.1, s3.2.1, s3.2.2.1, ()) h562)))) (
pWant v50 true (
pFieldA .undef 3 fun v739 =>
pWant v50 true (
pLoad1 h562 v739 fun v740 =>
pWant v50 true (
pInt .lss v561 v740 fun v741 =>
pPick v50 v741 (.bool false) fun v742 =>
pChk v739 none v740 h49 h562 h31.nx <|
j34 (v742, s3.1, s3.2.1, s3.2.2.1, ()) h562) (
pPick v50 .undef (.bool false) fun v743 =>
pChk v739 none v740 h49 h562 h31.nx <|
j34 (v743, s3.1, s3.2.1, s3.2.2.1, ()) h562)) (
pWant v50 true (
pInt .lss v561 .undef fun v744 =>
pPick v50 v744 (.bool false) fun v745 =>
j34 (v745, s3.1, s3.2.1, s3.2.2.1, ()) h562) (
pPick v50 .undef (.bool false) fun v746 =>
j34 (v746, s3.1, s3.2.1, s3.2.2.1, ()) h562))) (
pWant v50 true (
pLoad1 h562 .undef fun v747 =>
pWant v50 true (
pInt .lss v561 v747 fun v748 =>
pPick v50 v748 (.bool false) fun v749 =>
pChk .undef none v747 h49 h562 h31.nx <|
j34 (v749, s3.1, s3.2.1, s3.2.2.1, ()) h562) (
pPick v50 .undef (.bool false) fun v750 =>
pChk .undef none v747 h49 h562 h31.nx <|
j34 (v750, s3.1, s3.2.1, s3.2.2.1, ()) h562)) (
pWant v50 true (
pInt .lss v561 .undef fun v751 =>
pPick v50 v751 (.bool false) fun v752 =>
j34 (v752, s3.1, s3.2.1, s3.2.2.1, ()) h562) (
pPick v50 .undef (.bool false) fun v753 =>
j34 (v753, s3.1, s3.2.1, s3.2.2.1, ()) h562)))))) (
pWant v50 true (
pFieldA .undef 1 fun v754 =>
pWant v50 true (
pFieldA v754 0 fun v755 =>
pWant v50 true (
pFieldA v755 3 fun v756 =>
pWant v50 true (
pLoad1 h562 v756 fun v757 =>
pWant v50 true (
pInt .lss v561 v757 fun v758 =>
pPick v50 v758 (.bool false) fun v759 =>
pChk v756 none v757 h49 h562 h31.nx <|
j34 (v759, s3.1, s3.2.1, s3.2.2.1, ()) h562) (
pPick v50 .undef (.bool false) fun v760 =>
pChk v756 none v757 h49 h562 h31.nx <|
j34 (v760, s3.1, s3.2.1, s3.2.2.1, ()) h562)) (
pWant v50 true (
pInt .lss v561 .undef fun v761 =>
pPick v50 v761 (.bool false) fun v762 =>
j34 (v762, s3.1, s3.2.1, s3.2.2.1, ()) h562) (
pPick v50 .undef (.bool false) fun v763 =>
j34 (v763, s3.1, s3.2.1, s3.2.2.1, ()) h562))) (
pWant v50 true (
pLoad1 h562 .undef fun v764 =>
pWant v50 true (
pInt .lss v561 v764 fun v765 =>
pPick v50 v765 (.bool false) fun v766 =>
pChk .undef none v764 h49 h562 h31.nx <|
j34 (v766, s3.1, s3.2.1, s3.2.2.1, ()) h562) (
pPick v50 .undef (.bool false) fun v767 =>
pChk .undef none v764 h49 h562 h31.nx <|
j34 (v767, s3.1, s3.2.1, s3.2.2.1, ()) h562)) (
pWant v50 true (
pInt .lss v561 .undef fun v768 =>
pPick v50 v768 (.bool false) fun v769 =>
j34 (v769, s3.1, s3.2.1, s3.2.2.1, ()) h562) (
pPick v50 .undef (.bool false) fun v770 =>
j34 (v770, s3.1, s3.2.1, s3.2.2.1, ()) h562)))) (
pWant v50 true (
pFieldA .undef 3 fun v771 =>
pWant v50 true (
pLoad1 h562 v771 fun v772 =>
pWant v50 true (
pInt .lss v561 v772 fun v773 =>
pPick v50 v773 (.bool false) fun v774 =>
pChk v771 none v772 h49 h562 h31.nx <|
j34 (v774, s3.1, s3.2.1, s3.2.2.1, ()) h562) (
pPick v50 .undef (.bool false) fun v775 =>
pChk v771 none v772 h49 h562 h31.nx <|
j34 (v775, s3.1, s3.2.1, s3.2.2.1, ()) h562)) (
pWant v50 true (
pInt .lss v561 .undef fun v776 =>
pPick v50 v776 (.bool false) fun v777 =>
j34 (v777, s3.1, s3.2.1, s3.2.2.1, ()) h562) (
pPick v50 .undef (.bool false) fun v778 =>
j34 (v778, s3.1, s3.2.1, s3.2.2.1, ()) h562))) (
pWant v50 true (
pLoad1 h562 .undef fun v779 =>
pWant v50 true (
pInt .lss v561 v779 fun v780 =>
pPick v50 v780 (.bool false) fun v781 =>
pChk .undef none v779 h49 h562 h31.nx <|
j34 (v781, s3.1, s3.2.1, s3.2.2.1, ()) h562) (
pPick v50 .undef (.bool false) fun v782 =>
pChk .undef none v779 h49 h562 h31.nx <|
j34 (v782, s3.1, s3.2.1, s3.2.2.1, ()) h562)) (
pWant v50 true (
pInt .lss v561 .undef fun v783 =>
pPick v50 v783 (.bool false) fun v784 =>
j34 (v784, s3.1, s3.2.1, s3.2.2.1, ()) h562) (
pPick v50 .undef (.bool false) fun v785 =>
j34 (v785, s3.1, s3.2.1, s3.2.2.1, ()) h562))))) (
pWant v50 true (
pFieldA .undef 0 fun v786 =>
pWant v50 true (
pFieldA v786 3 fun v787 =>
pWant v50 true (
pLoad1 h562 v787 fun v788 =>
pWant v50 true (
pInt .lss v561 v788 fun v789 =>
pPick v50 v789 (.bool false) fun v790 =>
pChk v787 none v788 h49 h562 h31.nx <|
j34 (v790, s3.1, s3.2.1, s3.2.2.1, ()) h562) (
pPick v50 .undef (.bool false) fun v791 =>
pChk v787 none v788 h49 h562 h31.nx <|
j34 (v791, s3.1, s3.2.1, s3.2.2.1, ()) h562)) (
pWant v50 true (
pInt .lss v561 .undef fun v792 =>
pPick v50 v792 (.bool false) fun v793 =>
j34 (v793, s3.1, s3.2.1, s3.2.2.1, ()) h562) (
pPick v50 .undef (.bool false) fun v794 =>
j34 (v794, s3.1, s3.2.1, s3.2.2.1, ()) h562))) (
pWant v50 true (
pLoad1 h562 .undef fun v795 =>
pWant v50 true (
pInt .lss v561 v795 fun v796 =>
pPick v50 v796 (.bool false) fun v797 =>
pChk .undef none v795 h49 h562 h31.nx <|
j34 (v797, s3.1, s3.2.1, s3.2.2.1, ()) h562) (
pPick v50 .undef (.bool false) fun v798 =>
pChk .undef none v795 h49 h562 h31.nx <|
j34 (v798, s3.1, s3.2.1, s3.2.2.1, ()) h562)) (
pWant v50 true (
pInt .lss v561 .undef fun v799 =>
pPick v50 v799 (.bool false) fun v800 =>
j34 (v800, s3.1, s3.2.1, s3.2.2.1, ()) h562) (
pPick v50 .undef (.bool false) fun v801 =>
j34 (v801, s3.1, s3.2.1, s3.2.2.1, ()) h562)))) (
pWant v50 true (
pFieldA .undef 3 fun v802 =>
pWant v50 true (
pLoad1 h562 v802 fun v803 =>
pWant v50 true (
pInt .lss v561 v803 fun v804 =>
pPick v50 v804 (.bool false) fun v805 =>
pChk v802 none v803 h49 h562 h31.nx <|
j34 (v805, s3.1, s3.2.1, s3.2.2.1, ()) h562) (
pPick v50 .undef (.bool false) fun v806 =>
pChk v802 none v803 h49 h562 h31.nx <|
j34 (v806, s3.1, s3.2.1, s3.2.2.1, ()) h562)) (
pWant v50 true (
pInt .lss v561 .undef fun v807 =>
pPick v50 v807 (.bool false) fun v808 =>
j34 (v808, s3.1, s3.2.1, s3.2.2.1, ()) h562) (
pPick v50 .undef (.bool false) fun v809 =>
j34 (v809, s3.1, s3.2.1, s3.2.2.1, ()) h562))) (
pWant v50 true (
pLoad1 h562 .undef fun v810 =>
pWant v50 true (
pInt .lss v561 v810 fun v811 =>
pPick v50 v811 (.bool false) fun v812 =>
pChk .undef none v810 h49 h562 h31.nx <|
j34 (v812, s3.1, s3.2.1, s3.2.2.1, ()) h562) (
pPick v50 .undef (.bool false) fun v813 =>
pChk .undef none v810 h49 h562 h31.nx <|
j34 (v813, s3.1, s3.2.1, s3.2.2.1, ()) h562)) (
pWant v50 true (
pInt .lss v561 .undef fun v814 =>
pPick v50 v814 (.bool false) fun v815 =>
j34 (v815, s3.1, s3.2.1, s3.2.2.1, ()) h562) (
pPick v50 .undef (.bool false) fun v816 =>
j34 (v816, s3.1, s3.2.1, s3.2.2.1, ()) h562)))))))) (
pWant v50 true (
pWant v50 true (
pNil s3.2.2.1 fun v817 =>
pWant v50 true (
pFieldA v817 1 fun v818 =>
pWant v50 true (
pFieldA v818 0 fun v819 =>
pWant v50 true (
pFieldA v819 3 fun v820 =>
pWant v50 true (
pLoad1 h49 v820 fun v821 =>
pWant v50 true (
pInt .lss .undef v821 fun v822 =>
pPick v50 v822 (.bool false) fun v823 =>
j34 (v823, s3.1, s3.2.1, s3.2.2.1, ()) h49) (
pPick v50 .undef (.bool false) fun v824 =>
j34 (v824, s3.1, s3.2.1, s3.2.2.1, ()) h49)) (
pWant v50 true (
pInt .lss .undef .undef fun v825 =>
pPick v50 v825 (.bool false) fun v826 =>
j34 (v826, s3.1, s3.2.1, s3.2.2.1, ()) h49) (
pPick v50 .undef (.bool false) fun v827 =>
j34 (v827, s3.1, s3.2.1, s3.2.2.1, ()) h49))) (
pWant v50 true (
pLoad1 h49 .undef fun v828 =>
pWant v50 true (
pInt .lss .undef v828 fun v829 =>
pPick v50 v829 (.bool false) fun v830 =>
j34 (v830, s3.1, s3.2.1, s3.2.2.1, ()) h49) (
pPick v50 .undef (.bool false) fun v831 =>
j34 (v831, s3.1, s3.2.1, s3.2.2.1, ()) h49)) (
pWant v50 true (
pInt .lss .undef .undef fun v832 =>
pPick v50 v832 (.bool false) fun v833 =>
j34 (v833, s3.1, s3.2.1, s3.2.2.1, ()) h49) (
pPick v50 .undef (.bool false) fun v834 =>
j34 (v834, s3.1, s3.2.1, s3.2.2.1, ()) h49)))) (
pWant v50 true (
pFieldA .undef 3 fun v835 =>
pWant v50 true (
pLoad1 h49 v835 fun v836 =>
pWant v50 true (
pInt .lss .undef v836 fun v837 =>
pPick v50 v837 (.bool false) fun v838 =>
j34 (v838, s3.1, s3.2.1, s3.2.2.1, ()) h49) (
pPick v50 .undef (.bool false) fun v839 =>
j34 (v839, s3.1, s3.2.1, s3.2.2.1, ()) h49)) (
pWant v50 true (
pInt .lss .undef .undef fun v840 =>
pPick v50 v840 (.bool false) fun v841 =>
j34 (v841, s3.1, s3.2.1, s3.2.2.1, ()) h49) (
pPick v50 .undef (.bool false) fun v842 =>
j34 (v842, s3.1, s3.2.1, s3.2.2.1, ()) h49))) (
pWant v50 true (
pLoad1 h49 .undef fun v843 =>
pWant v50 true (
pInt .lss .undef v843 fun v844 =>
pPick v50 v844 (.bool false) fun v845 =>
j34 (v845, s3.1, s3.2.1, s3.2.2.1, ()) h49) (
pPick v50 .undef (.bool false) fun v846 =>
j34 (v846, s3.1, s3.2.1, s3.2.2.1, ()) h49)) (
pWant v50 true (
pInt .lss .undef .undef fun v847 =>
pPick v50 v847 (.bool false) fun v848 =>
j34 (v848, s3.1, s3.2.1, s3.2.2.1, ()) h49) (
pPick v50 .undef (.bool false) fun v849 =>
j34 (v849, s3.1, s3.2.1, s3.2.2.1, ()) h49))))) (
pWant v50 true (
pFieldA .undef 0 fun v850 =>
pWant v50 true (
pFieldA v850 3 fun v851 =>
pWant v50 true (
pLoad1 h49 v851 fun v852 =>
pWant v50 true (
pInt .lss .undef v852 fun v853 =>
pPick v50 v853 (.bool false) fun v854 =>
j34 (v854, s3.1, s3.2.1, s3.2.2.1, ()) h49) (
pPick v50 .undef (.bool false) fun v855 =>
j34 (v855, s3.1, s3.2.1, s3.2.2.1, ()) h49)) (
pWant v50 true (
pInt .lss .undef .undef fun v856 =>
pPick v50 v856 (.bool false) fun v857 =>
j34 (v857, s3.1, s3.2.1, s3.2.2.1, ()) h49) (
pPick v50 .undef (.bool false) fun v858 =>
j34 (v858, s3.1, s3.2.1, s3.2.2.1, ()) h49))) (
pWant v50 true (
pLoad1 h49 .undef fun v859 =>
pWant v50 true (
pInt .lss .undef v859 fun v860 =>
pPick v50 v860 (.bool false) fun v861 =>
j34 (v861, s3.1, s3.2.1, s3.2.2.1, ()) h49) (
pPick v50 .undef (.bool false) fun v862 =>
j34 (v862, s3.1, s3.2.1, s3.2.2.1, ()) h49)) (
pWant v50 true (
pInt .lss .undef .undef fun v863 =>
pPick v50 v863 (.bool false) fun v864 =>
j34 (v864, s3.1, s3.2.1, s3.2.2.1, ()) h49) (
pPick v50 .undef (.bool false) fun v865 =>
j34 (v865, s3.1, s3.2.1, s3.2.2.1, ()) h49)))) (
pWant v50 true (
pFieldA .undef 3 fun v866 =>
pWant v50 true (
pLoad1 h49 v866 fun v867 =>
pWant v50 true (
pInt .lss .undef v867 fun v868 =>
pPick v50 v868 (.bool false) fun v869 =>
j34 (v869, s3.1, s3.2.1, s3.2.2.1, ()) h49) (
pPick v50 .undef (.bool false) fun v870 =>
j34 (v870, s3.1, s3.2.1, s3.2.2.1, ()) h49)) (
pWant v50 true (
pInt .lss .undef .undef fun v871 =>
pPick v50 v871 (.bool false) fun v872 =>
j34 (v872, s3.1, s3.2.1, s3.2.2.1, ()) h49) (
pPick v50 .undef (.bool false) fun v873 =>
j34 (v873, s3.1, s3.2.1, s3.2.2.1, ()) h49))) (
pWant v50 true (
pLoad1 h49 .undef fun v874 =>
pWant v50 true (
pInt .lss .undef v874 fun v875 =>
pPick v50 v875 (.bool false) fun v876 =>
j34 (v876, s3.1, s3.2.1, s3.2.2.1, ()) h49) (
pPick v50 .undef (.bool false) fun v877 =>
j34 (v877, s3.1, s3.2.1, s3.2.2.1, ()) h49)) (
pWant v50 true (
pInt .lss .undef .undef fun v878 =>
pPick v50 v878 (.bool false) fun v879 =>
j34 (v879, s3.1, s3.2.1, s3.2.2.1, ()) h49) (
pPick v50 .undef (.bool false) fun v880 =>
j34 (v880, s3.1, s3.2.1, s3.2.2.1, ()) h49)))))) (
pWant v50 true (
pFieldA .undef 1 fun v881 =>
pWant v50 true (
pFieldA v881 0 fun v882 =>
pWant v50 true (
pFieldA v882 3 fun v883 =>
pWant v50 true (
pLoad1 h49 v883 fun v884 =>
pWant v50 true (
pInt .lss .undef v884 fun v885 =>
pPick v50 v885 (.bool false) fun v886 =>
j34 (v886, s3.1, s3.2.1, s3.2.2.1, ()) h49) (
pPick v50 .undef (.bool false) fun v887 =>
j34 (v887, s3.1, s3.2.1, s3.2.2.1, ()) h49)) (
pWant v50 true (
pInt .lss .undef .undef fun v888 =>
pPick v50 v888 (.bool false) fun v889 =>
j34 (v889, s3.1, s3.2.1, s3.2.2.1, ()) h49) (
pPick v50 .undef (.bool false) fun v890 =>
j34 (v890, s3.1, s3.2.1, s3.2.2.1, ()) h49))) (
pWant v50 true (
pLoad1 h49 .undef fun v891 =>
pWant v50 true (
pInt .lss .undef v891 fun v892 =>
pPick v50 v892 (.bool false) fun v893 =>
j34 (v893, s3.1, s3.2.1, s3.2.2.1, ()) h49) (
pPick v50 .undef (.bool false) fun v894 =>
j34 (v894, s3.1, s3.2.1, s3.2.2.1, ()) h49)) (
pWant v50 true (
pInt .lss .undef .undef fun v895 =>
pPick v50 v895 (.bool false) fun v896 =>
j34 (v896, s3.1, s3.2.1, s3.2.2.1, ()) h49) (
pPick v50 .undef (.bool false) fun v897 =>
j34 (v897, s3.1, s3.2.1, s3.2.2.1, ()) h49)))) (
pWant v50 true (
pFieldA .undef 3 fun v898 =>
pWant v50 true (
pLoad1 h49 v898 fun v899 =>
pWant v50 true (
pInt .lss .undef v899 fun v900 =>
pPick v50 v900 (.bool false) fun v901 =>
j34 (v901, s3.1, s3.2.1, s3.2.2.1, ()) h49) (
pPick v50 .undef (.bool false) fun v902 =>
j34 (v902, s3.1, s3.2.1, s3.2.2.1, ()) h49)) (
pWant v50 true (
pInt .lss .undef .undef fun v903 =>
pPick v50 v903 (.bool false) fun v904 =>
j34 (v904, s3.1, s3.2.1, s3.2.2.1, ()) h49) (
pPick v50 .undef (.bool false) fun v905 =>
j34 (v905, s3.1, s3.2.1, s3.2.2.1, ()) h49))) (
pWant v50 true (
pLoad1 h49 .undef fun v906 =>
pWant v50 true (
pInt .lss .undef v906 fun v907 =>
pPick v50 v907 (.bool false) fun v908 =>
j34 (v908, s3.1, s3.2.1, s3.2.2.1, ()) h49) (
pPick v50 .undef (.bool false) fun v909 =>
j34 (v909, s3.1, s3.2.1, s3.2.2.1, ()) h49)) (
pWant v50 true (
pInt .lss .undef .undef fun v910 =>
pPick v50 v910 (.bool false) fun v911 =>
j34 (v911, s3.1, s3.2.1, s3.2.2.1, ()) h49) (
pPick v50 .undef (.bool false) fun v912 =>
j34 (v912, s3.1, s3.2.1, s3.2.2.1, ()) h49))))) (
pWant v50 true (
pFieldA .undef 0 fun v913 =>
pWant v50 true (
pFieldA v913 3 fun v914 =>
pWant v50 true (
pLoad1 h49 v914 fun v915 =>
pWant v50 true (
pInt .lss .undef v915 fun v916 =>
pPick v50 v916 (.bool false) fun v917 =>
j34 (v917, s3.1, s3.2.1, s3.2.2.1, ()) h49) (
pPick v50 .undef (.bool false) fun v918 =>
j34 (v918, s3.1, s3.2.1, s3.2.2.1, ()) h49)) (
pWant v50 true (
pInt .lss .undef .undef fun v919 =>
pPick v50 v919 (.bool false) fun v920 =>
j34 (v920, s3.1, s3.2.1, s3.2.2.1, ()) h49) (
pPick v50 .undef (.bool false) fun v921 =>
j34 (v921, s3.1, s3.2.1, s3.2.2.1, ()) h49))) (
pWant v50 true (
pLoad1 h49 .undef fun v922 =>
pWant v50 true (
pInt .lss .undef v922 fun v923 =>
pPick v50 v923 (.bool false) fun v924 =>
j34 (v924, s3.1, s3.2.1, s3.2.2.1, ()) h49) (
pPick v50 .undef (.bool false) fun v925 =>
j34 (v925, s3.1, s3.2.1, s3.2.2.1, ()) h49)) (
pWant v50 true (
pInt .lss .undef .undef fun v926 =>
pPick v50 v926 (.bool false) fun v927 =>
j34 (v927, s3.1, s3.2.1, s3.2.2.1, ()) h49) (
pPick v50 .undef (.bool false) fun v928 =>
j34 (v928, s3.1, s3.2.1, s3.2.2.1, ()) h49)))) (
pWant v50 true (
pFieldA .undef 3 fun v929 =>
pWant v50 true (
pLoad1 h49 v929 fun v930 =>
pWant v50 true (
pInt .lss .undef v930 fun v931 =>
pPick v50 v931 (.bool false) fun v932 =>
j34 (v932, s3.1, s3.2.1, s3.2.2.1, ()) h49) (
pPick v50 .undef (.bool false) fun v933 =>
j34 (v933, s3.1, s3.2.1, s3.2.2.1, ()) h49)) (
pWant v50 true (
pInt .lss .undef .undef fun v934 =>
pPick v50 v934 (.bool false) fun v935 =>
j34 (v935, s3.1, s3.2.1, s3.2.2.1, ()) h49) (
pPick v50 .undef (.bool false) fun v936 =>
j34 (v936, s3.1, s3.2.1, s3.2.2.1, ()) h49))) (
pWant v50 true (
pLoad1 h49 .undef fun v937 =>
pWant v50 true (
pInt .lss .undef v937 fun v938 =>
pPick v50 v938 (.bool false) fun v939 =>
j34 (v939, s3.1, s3.2.1, s3.2.2.1, ()) h49) (
pPick v50 .undef (.bool false) fun v940 =>
j34 (v940, s3.1, s3.2.1, s3.2.2.1, ()) h49)) (
pWant v50 true (
pInt .lss .undef .undef fun v941 =>
pPick v50 v941 (.bool false) fun v942 =>
j34 (v942, s3.1, s3.2.1, s3.2.2.1, ()) h49) (
pPick v50 .undef (.bool false) fun v943 =>
j34 (v943, s3.1, s3.2.1, s3.2.2.1, ()) h49))))))) (
pWant v50 true (
pNil .undef fun v944 =>
pWant v50 true (
pFieldA v944 1 fun v945 =>
pWant v50 true (
pFieldA v945 0 fun v946 =>
pWant v50 true (
pFieldA v946 3 fun v947 =>
pWant v50 true (
pLoad1 h49 v947 fun v948 =>
pWant v50 true (
pInt .lss .undef v948 fun v949 =>
pPick v50 v949 (.bool false) fun v950 =>
j34 (v950, s3.1, s3.2.1, s3.2.2.1, ()) h49) (
pPick v50 .undef (.bool false) fun v951 =>
j34 (v951, s3.1, s3.2.1, s3.2.2.1, ()) h49)) (
pWant v50 true (
pInt .lss .undef .undef fun v952 =>
pPick v50 v952 (.bool false) fun v953 =>
j34 (v953, s3.1, s3.2.1, s3.2.2.1, ()) h49) (
pPick v50 .undef (.bool false) fun v954 =>
j34 (v954, s3.1, s3.2.1, s3.2.2.1, ()) h49))) (
pWant v50 true (
pLoad1 h49 .undef fun v955 =>
pWant v50 true (
pInt .lss .undef v955 fun v956 =>
pPick v50 v956 (.bool false) fun v957 =>
j34 (v957, s3.1, s3.2.1, s3.2.2.1, ()) h49) (
pPick v50 .undef (.bool false) fun v958 =>
j34 (v958, s3.1, s3.2.1, s3.2.2.1, ()) h49)) (
pWant v50 true (
pInt .lss .undef .undef fun v959 =>
pPick v50 v959 (.bool false) fun v960 =>
j34 (v960, s3.1, s3.2.1, s3.2.2.1, ()) h49) (
pPick v50 .undef (.bool false) fun v961 =>
j34 (v961, s3.1, s3.2.1, s3.2.2.1, ()) h49)))) (
pWant v50 true (
pFieldA .undef 3 fun v962 =>
pWant v50 true (
pLoad1 h49 v962 fun v963 =>
pWant v50 true (
pInt .lss .undef v963 fun v964 =>
pPick v50 v964 (.bool false) fun v965 =>
j34 (v965, s3.1, s3.2.1, s3.2.2.1, ()) h49) (
pPick v50 .undef (.bool false) fun v966 =>
j34 (v966, s3.1, s3.2.1, s3.2.2.1, ()) h49)) (
pWant v50 true (
pInt .lss .undef .undef fun v967 =>
pPick v50 v967 (.bool false) fun v968 =>
j34 (v968, s3.1, s3.2.1, s3.2.2.1, ()) h49) (
pPick v50 .undef (.bool false) fun v969 =>
j34 (v969, s3.1, s3.2.1, s3.2.2.1, ()) h49))) (
pWant v50 true (
pLoad1 h49 .undef fun v970 =>
pWant v50 true (
pInt .lss .undef v970 fun v971 =>
pPick v50 v971 (.bool false) fun v972 =>
j34 (v972, s3.1, s3.2.1, s3.2.2.1, ()) h49) (
pPick v50 .undef (.bool false) fun v973 =>
j34 (v973, s3.1, s3.2.1, s3.2.2.1, ()) h49)) (
pWant v50 true (
pInt .lss .undef .undef fun v974 =>
pPick v50 v974 (.bool false) fun v975 =>
j34 (v975, s3.1, s3.2.1, s3.2.2.1, ()) h49) (
pPick v50 .undef (.bool false) fun v976 =>
j34 (v976, s3.1, s3.2.1, s3.2.2.1, ()) h49))))) (
pWant v50 true (
pFieldA .undef 0 fun v977 =>
pWant v50 true (
pFieldA v977 3 fun v978 =>
pWant v50 true (
pLoad1 h49 v978 fun v979 =>
pWant v50 true (
pInt .lss .undef v979 fun v980 =>
pPick v50 v980 (.bool false) fun v981 =>
j34 (v981, s3.1, s3.2.1, s3.2.2.1, ()) h49) (
pPick v50 .undef (.bool false) fun v982 =>
j34 (v982, s3.1, s3.2.1, s3.2.2.1, ()) h49)) (
pWant v50 true (
pInt .lss .undef .undef fun v983 =>
pPick v50 v983 (.bool false) fun v984 =>
j34 (v984, s3.1, s3.2.1, s3.2.2.1, ()) h49) (
pPick v50 .undef (.bool false) fun v985 =>
j34 (v985, s3.1, s3.2.1, s3.2.2.1, ()) h49))) (
pWant v50 true (
pLoad1 h49 .undef fun v986 =>
pWant v50 true (
pInt .lss .undef v986 fun v987 =>
pPick v50 v987 (.bool false) fun v988 =>
j34 (v988, s3.1, s3.2.1, s3.2.2.1, ()) h49) (
pPick v50 .undef (.bool false) fun v989 =>
j34 (v989, s3.1, s3.2.1, s3.2.2.1, ()) h49)) (
pWant v50 true (
pInt .lss .undef .undef fun v990 =>
pPick v50 v990 (.bool false) fun v991 =>
j34 (v991, s3.1, s3.2.1, s3.2.2.1, ()) h49) (
pPick v50 .undef (.bool false) fun v992 =>
j34 (v992, s3.1, s3.2.1, s3.2.2.1, ()) h49)))) (
pWant v50 true (
pFieldA .undef 3 fun v993 =>
pWant v50 true (
pLoad1 h49 v993 fun v994 =>
pWant v50 true (
pInt .lss .undef v994 fun v995 =>
pPick v50 v995 (.bool false) fun v996 =>
j34 (v996, s3.1, s3.2.1, s3.2.2.1, ()) h49) (
pPick v50 .undef (.bool false) fun v997 =>
j34 (v997, s3.1, s3.2.1, s3.2.2.1, ()) h49)) (
pWant v50 true (
pInt .lss .undef .undef fun v998 =>
pPick v50 v998 (.bool false) fun v999 =>
j34 (v999, s3.1, s3.2.1, s3.2.2.1, ()) h49) (
pPick v50 .undef (.bool false) fun v1000 =>
j34 (v1000, s3.1, s3.2.1, s3.2.2.1, ()) h49))) (
pWant v50 true (
pLoad1 h49 .undef fun v1001 =>
pWant v50 true (
pInt .lss .undef v1001 fun v1002 =>
pPick v50 v1002 (.bool false) fun v1003 =>
j34 (v1003, s3.1, s3.2.1, s3.2.2.1, ()) h49) (
pPick v50 .undef (.bool false) fun v1004 =>
j34 (v1004, s3.1, s3.2.1, s3.2.2.1, ()) h49)) (
pWant v50 true (
pInt .lss .undef .undef fun v1005 =>
pPick v50 v1005 (.bool false) fun v1006 =>
j34 (v1006, s3.1, s3.2.1, s3.2.2.1, ()) h49) (
pPick v50 .undef (.bool false) fun v1007 =>
j34 (v1007, s3.1, s3.2.1, s3.2.2.1, ()) h49)))))) (
pWant v50 true (
pFieldA .undef 1 fun v1008 =>
pWant v50 true (
pFieldA v1008 0 fun v1009 =>
pWant v50 true (
pFieldA v1009 3 fun v1010 =>
pWant v50 true (
pLoad1 h49 v1010 fun v1011 =>
pWant v50 true (
pInt .lss .undef v1011 fun v1012 =>
pPick v50 v1012 (.bool false) fun v1013 =>
j34 (v1013, s3.1, s3.2.1, s3.2.2.1, ()) h49) (
pPick v50 .undef (.bool false) fun v1014 =>
j34 (v1014, s3.1, s3.2.1, s3.2.2.1, ()) h49)) (
pWant v50 true (
pInt .lss .undef .undef fun v1015 =>
pPick v50 v1015 (.bool false) fun v1016 =>
j34 (v1016, s3.1, s3.2.1, s3.2.2.1, ()) h49) (
pPick v50 .undef (.bool false) fun v1017 =>
j34 (v1017, s3.1, s3.2.1, s3.2.2.1, ()) h49))) (
pWant v50 true (
pLoad1 h49 .undef fun v1018 =>
pWant v50 true (
pInt .lss .undef v1018 fun v1019 =>
pPick v50 v1019 (.bool false) fun v1020 =>
j34 (v1020, s3.1, s3.2.1, s3.2.2.1, ()) h49) (
pPick v50 .undef (.bool false) fun v1021 =>
j34 (v1021, s3.1, s3.2.1, s3.2.2.1, ()) h49)) (
pWant v50 true (
pInt .lss .undef .undef fun v1022 =>
pPick v50 v1022 (.bool false) fun v1023 =>
j34 (v1023, s3.1, s3.2.1, s3.2.2.1, ()) h49) (
pPick v50 .undef (.bool false) fun v1024 =>
j34 (v1024, s3.1, s3.2.1, s3.2.2.1, ()) h49)))) (
pWant v50 true (
pFieldA .undef 3 fun v1025 =>
pWant v50 true (
pLoad1 h49 v1025 fun v1026 =>
pWant v50 true (
pInt .lss .undef v1026 fun v1027 =>
pPick v50 v1027 (.bool false) fun v1028 =>
j34 (v1028, s3.1, s3.2.1, s3.2.2.1, ()) h49) (
pPick v50 .undef (.bool false) fun v1029 =>
j34 (v1029, s3.1, s3.2.1, s3.2.2.1, ()) h49)) (
pWant v50 true (
pInt .lss .undef .undef fun v1030 =>
pPick v50 v1030 (.bool false) fun v1031 =>
j34 (v1031, s3.1, s3.2.1, s3.2.2.1, ()) h49) (
pPick v50 .undef (.bool false) fun v1032 =>
j34 (v1032, s3.1, s3.2.1, s3.2.2.1, ()) h49))) (
pWant v50 true (
pLoad1 h49 .undef fun v1033 =>
pWant v50 true (
pInt .lss .undef v1033 fun v1034 =>
pPick v50 v1034 (.bool false) fun v1035 =>
j34 (v1035, s3.1, s3.2.1, s3.2.2.1, ()) h49) (
pPick v50 .undef (.bool false) fun v1036 =>
j34 (v1036, s3.1, s3.2.1, s3.2.2.1, ()) h49)) (
pWant v50 true (
pInt .lss .undef .undef fun v1037 =>
pPick v50 v1037 (.bool false) fun v1038 =>
j34 (v1038, s3.1, s3.2.1, s3.2.2.1, ()) h49) (
pPick v50 .undef (.bool false) fun v1039 =>
j34 (v1039, s3.1, s3.2.1, s3.2.2.1, ()) h49))))) (
pWant v50 true (
pFieldA .undef 0 fun v1040 =>
pWant v50 true (
pFieldA v1040 3 fun v1041 =>
pWant v50 true (
pLoad1 h49 v1041 fun v1042 =>
pWant v50 true (
pInt .lss .undef v1042 fun v1043 =>
pPick v50 v1043 (.bool false) fun v1044 =>
j34 (v1044, s3.1, s3.2.1, s3.2.2.1, ()) h49) (
pPick v50 .undef (.bool false) fun v1045 =>
j34 (v1045, s3.1, s3.2.1, s3.2.2.1, ()) h49)) (
pWant v50 true (
pInt .lss .undef .undef fun v1046 =>
pPick v50 v1046 (.bool false) fun v1047 =>
j34 (v1047, s3.1, s3.2.1, s3.2.2.1, ()) h49) (
pPick v50 .undef (.bool false) fun v1048 =>
j34 (v1048, s3.1, s3.2.1, s3.2.2.1, ()) h49))) (
pWant v50 true (
pLoad1 h49 .undef fun v1049 =>
pWant v50 true (
pInt .lss .undef v1049 fun v1050 =>
pPick v50 v1050 (.bool false) fun v1051 =>
j34 (v1051, s3.1, s3.2.1, s3.2.2.1, ()) h49) (
pPick v50 .undef (.bool false) fun v1052 =>
j34 (v1052, s3.1, s3.2.1, s3.2.2.1, ()) h49)) (
pWant v50 true (
pInt .lss .undef .undef fun v1053 =>
pPick v50 v1053 (.bool false) fun v1054 =>
j34 (v1054, s3.1, s3.2.1, s3.2.2.1, ()) h49) (
pPick v50 .undef (.bool false) fun v1055 =>
j34 (v1055, s3.1, s3.2.1, s3.2.2.1, ()) h49)))) (
pWant v50 true (
pFieldA .undef 3 fun v1056 =>
pWant v50 true (
pLoad1 h49 v1056 fun v1057 =>
pWant v50 true (
pInt .lss .undef v1057 fun v1058 =>
pPick v50 v1058 (.bool false) fun v1059 =>
j34 (v1059, s3.1, s3.2.1, s3.2.2.1, ()) h49) (
pPick v50 .undef (.bool false) fun v1060 =>
j34 (v1060, s3.1, s3.2.1, s3.2.2.1, ()) h49)) (
pWant v50 true (
pInt .lss .undef .undef fun v1061 =>
pPick v50 v1061 (.bool false) fun v1062 =>
j34 (v1062, s3.1, s3.2.1, s3.2.2.1, ()) h49) (
pPick v50 .undef (.bool false) fun v1063 =>
j34 (v1063, s3.1, s3.2.1, s3.2.2.1, ()) h49))) (
pWant v50 true (
pLoad1 h49 .undef fun v1064 =>
pWant v50 true (
pInt .lss .undef v1064 fun v1065 =>
pPick v50 v1065 (.bool false) fun v1066 =>
j34 (v1066, s3.1, s3.2.1, s3.2.2.1, ()) h49) (
pPick v50 .undef (.bool false) fun v1067 =>
j34 (v1067, s3.1, s3.2.1, s3.2.2.1, ()) h49)) (
pWant v50 true (
pInt .lss .undef .undef fun v1068 =>
pPick v50 v1068 (.bool false) fun v1069 =>
j34 (v1069, s3.1, s3.2.1, s3.2.2.1, ()) h49) (
pPick v50 .undef (.bool false) fun v1070 =>
j34 (v1070, s3.1, s3.2.1, s3.2.2.1, ()) h49)))))))))) (
pCall c (.fn 26 [] []) [s3.1] h21 fun v1071 h1072 =>
pInt .eql v1071 (.int .i64 (.ofNat 3)) fun v1073 =>
pCond v1073 (
pNil s3.2.2.1 fun v1074 =>
pFieldA v1074 18 fun v1075 =>
pLoad1 h1072 v1075 fun v1076 =>
pCond v1076 (
pCall c (.fn 37 [] []) [s3.2.2.1] h1072 fun _ h1078 =>
some ((.tup []), h1078)) (
pNil s3.2.2.1 fun v1079 =>
pFieldA v1079 11 fun v1080 =>
pStore h1072 v1080 (.int .i64 (.ofNat 4)) 1 fun h1081 =>
j18 (()) h1081 [])) (
pNil s3.2.2.1 fun v1082 =>
pFieldA v1082 12 fun v1083 =>
pFieldA v1083 0 fun v1084 =>
pLoad1 h1072 v1084 fun v1085 =>
pCond v1085 (
pCall c (.fn 26 [] []) [s3.1] h1072 fun v1086 h1087 =>
pCall c (.fn 43 [] []) [s3.2.2.1, v1086] h1087 fun _ h1089 =>
j18 (()) h1089 []) (
joinC (α := AV × AV × Unit → AH → R) (fun s1090 h1091 =>
joinC (α := AV × Unit → AH → R) (fun s1093 h1094 =>
pCall c (.fn 49 [] []) [s1093.1] h1094 fun _ h1097 =>
j18 (()) h1097 []) fun j1095 =>
pNil s1090.2.1 fun v1098 =>
pFieldA v1098 21 fun v1099 =>
pLoad1 h1091 v1099 fun v1100 =>
pCall c (.fn 46 [] []) [s1090.1] h1091 fun v1101 h1102 =>
pCall c (.fn 48 [] []) [s1090.1] h1102 fun v1103 h1104 =>
pCall c (.fn 47 [] []) [v1100, v1101, v1103] h1104 fun _ h1106 =>
pChk v1099 none v1100 h1102 h1104 h1091.nx <|
pChk v1099 none v1100 h1091 h1102 h1091.nx <|
j1095 (s1090.2.1, ()) h1106) fun j1092 =>
pNil s3.2.2.1 fun v1107 =>
pFieldA v1107 20 fun v1108 =>
pLoad1 h1072 v1108 fun v1109 =>
pCall c (.fn 26 [] []) [s3.1] h1072 fun v1110 h1111 =>
pCall c (.fn 44 [] []) [s3.1] h1111 fun v1112 h1113 =>
pCall c (.fn 45 [] []) [s3.1] h1113 fun v1114 h1115 =>
pCall c (.fn 46 [] []) [s3.1] h1115 fun v1116 h1117 =>
pBuild [(.int .i64 (.ofNat 0)), (.int .i64 (.ofNat 0)), (.str []), (.int .u64 (.ofNat 0))] [(0, 1, v1110), (1, 1, v1112), (2, 1, v1114), (3, 1, v1116)] fun v1118 =>
pBuildS h1117 54 [(.int .i64 (.ofNat 0)), (.int .i64 (.ofNat 0)), (.str []), (.int .u64 (.ofNat 0))] 1 [(0, 4, v1118)] fun v1119 h1120 =>
pAppend h1120 54 4 v1109 v1119 fun v1121 h1122 =>
pNil s3.2.2.1 fun v1123 =>
pFieldA v1123 20 fun v1124 =>
pStore h1122 v1124 v1121 1 fun h1125 =>
pChk v1108 none v1109 h1115 h1117 h1072.nx <|
pChk v1108 none v1109 h1113 h1115 h1072.nx <|
pChk v1108 none v1109 h1111 h1113 h1072.nx <|
pChk v1108 none v1109 h1072 h1111 h1072.nx <|
j1092 (s3.1, s3.2.2.1, ()) h1125)))) fun j5 =>
pNil a0 fun v1126 =>
pFieldA v1126 19 fun v1127 =>
pLoad1 h v1127 fun v1128 =>
pCall c (.fn 32 [] []) [a0, a2] h fun v1129 h1130 =>
pBuildS h1130 58 [(.int .i64 (.ofNat 0)), (.int .i64 (.ofNat 0)), (.int .i64 (.ofNat 0)), (.bool false), (.int .i64 (.ofNat 0)), (.int .i64 (.ofNat 0)), (.int .u64 (.ofNat 0)), (.int .u64 (.ofNat 0)), (.int .i64 (.ofNat 0)), (.int .i64 (.ofNat 0)), .nils, .nils, .nils, (.str [])] 1 [(0, 14, v1129)] fun v1131 h1132 =>
pAppend h1132 58 14 v1128 v1131 fun v1133 h1134 =>
pNil a0 fun v1135 =>
pFieldA v1135 19 fun v1136 =>
pStore h1134 v1136 v1133 1 fun h1137 =>
pChk v1127 none v1128 h h1130 h.nx <|
j5 (v2, a1, a0, ()) h1137
theorem S27_eq (c : CV) (a0 a1 a2 : AV) (h : AH) : enterK Tryz.prog NN P27 c 27 [a0, a1, a2] h = S27 c a0 a1 a2 h := by kernel_rfl
def W27 (c : CV) (l : List AV) (h : AH) : R := match l with | [a0, a1, a2] => S27 c a0 a1 a2 h | _ => none
theorem W27_ok : WOk Tryz.prog 27 W27 := by
  intro c l h r e
  unfold W27 at e
  split at e
  · exact ⟨P27, by rw [S27_eq]; exact e⟩
  · cases e
/- (*quietus/thread.Thread).yield -/
def P28 : Pl := (.n none .z (.n none (.n none (.r [[12, 9, 4, 2, 0], [20, 14, 4, 2, 0], [27, 20, 14, 4, 2, 0], [28, 14, 4, 2, 0]]) (.n none (.n none (.r [[]]) .z) .z)) .z))
def S28 (c : CV) (a0 a1 a2 : AV) (h : AH) : R :=
pBox h 47 a1 fun v0 h1 =>
pFieldA v0 5 fun v2 =>
pLoad1 h1 v2 fun v3 =>
pInt .eql v3 (.int .i64 (.ofNat 0)) fun v4 =>
joinC (α := AV × AV × AV × AV × AV × Unit → AH → R) (fun s5 h6 =>
pPick s5.2.1 s5.1 (.bool false) fun v8 =>
joinC (α := AV × AV × AV × AV × AV × Unit → AH → R) (fun s9 h10 =>
joinC (α := AV × AV × AV × AV × AV × AV × Unit → AH → R) (fun s12 h13 =>
joinC (α := AV × AV × AV × AV × AV × Unit → AH → R) (fun s15 h16 =>
pPick s15.2.1 s15.1 (.bool false) fun v18 =>
pCond v18 (
joinC (α := Unit → AH → R) (fun _ h20 =>
some ((.tup []), h20)) fun j21 =>
pFieldA s15.2.2.1 0 fun v22 =>
pLoad1 h16 v22 fun v23 =>
pNil s15.2.2.2.2.1 fun v24 =>
pFieldA v24 25 fun v25 =>
pStore h16 v25 (.bool true) 1 fun h26 =>
pNil s15.2.2.2.2.1 fun v27 =>
pFieldA v27 24 fun v28 =>
pStore h26 v28 v23 1 fun h29 =>
pChk v22 none v23 h16 h26 h16.nx <|
j21 (()) h29) (
pCall c (.fn 42 [] []) [s15.2.2.2.2.1, s15.2.2.2.1] h16 fun _ h31 =>
some ((.tup []), h31))) fun j17 =>
pWant s12.2.2.1 true (
pPick s12.2.1 (.bool true) s12.1 fun v32 =>
j17 (v32, s12.2.2.1, s12.2.2.2.1, s12.2.2.2.2.1, s12.2.2.2.2.2.1, ()) h13) (
j17 (.undef, s12.2.2.1, s12.2.2.2.1, s12.2.2.2.2.1, s12.2.2.2.2.2.1, ()) h13)) fun j14 =>
pWant s9.1 false (
pFieldA s9.2.2.1 0 fun v33 =>
pLoad1 h10 v33 fun v34 =>
pNil s9.2.2.2.2.1 fun v35 =>
pFieldA v35 24 fun v36 =>
pLoad1 h10 v36 fun v37 =>
pInt .eql v34 v37 fun v38 =>
j14 (v38, s9.1, s9.2.1, s9.2.2.1, s9.2.2.2.1, s9.2.2.2.2.1, ()) h10) (
j14 (.undef, s9.1, s9.2.1, s9.2.2.1, s9.2.2.2.1, s9.2.2.2.2.1, ()) h10)) fun j11 =>
pWant v8 true (
pNil s5.2.2.2.2.1 fun v39 =>
pFieldA v39 25 fun v40 =>
pLoad1 h6 v40 fun v41 =>
pUn .not v41 fun v42 =>
j11 (v42, v8, s5.2.2.1, s5.2.2.2.1, s5.2.2.2.2.1, ()) h6) (
j11 (.undef, v8, s5.2.2.1, s5.2.2.2.1, s5.2.2.2.2.1, ()) h6)) fun j7 =>
pWant v4 true (
pFieldA v0 0 fun v43 =>
pLoad1 h1 v43 fun v44 =>
pInt .neq v44 (.int .u64 (.ofNat 0)) fun v45 =>
j7 (v45, v4, v0, a2, a0, ()) h1) (
j7 (.undef, v4, v0, a2, a0, ()) h1)
theorem S28_eq (c : CV) (a0 a1 a2 : AV) (h : AH) : enterK Tryz.prog NN P28 c 28 [a0, a1, a2] h = S28 c a0 a1 a2 h := by kernel_rfl
def W28 (c : CV) (l : List AV) (h : AH) : R := match l with | [a0, a1, a2] => S28 c a0 a1 a2 h | _ => none
theorem W28_ok : WOk Tryz.prog 28 W28 := by
  intro c l h r e
  unfold W28 at e
  split at e
  · exact ⟨P28, by rw [S28_eq]; exact e⟩
  · cases e
/- (*quietus/thread.Thread).looked -/
def P29 : Pl := .z
def S29 (c : CV) (a0 a1 : AV) (h : AH) : R :=
pNil a0 fun v0 =>
pFieldA v0 22 fun v1 =>
pLoad1 h v1 fun v2 =>
pBuildS h 22 [(.int .u64 (.ofNat 0))] 1 [(0, 1, a1)] fun v3 h4 =>
pAppend h4 22 1 v2 v3 fun v5 h6 =>
pNil a0 fun v7 =>
pFieldA v7 22 fun v8 =>
pStore h6 v8 v5 1 fun h9 =>
pCall c (.fn 50 [] []) [a0] h9 fun _ h11 =>
some ((.tup []), h11)
theorem S29_eq (c : CV) (a0 a1 : AV) (h : AH) : enterK Tryz.prog NN P29 c 29 [a0, a1] h = S29 c a0 a1 h := by kernel_rfl
def W29 (c : CV) (l : List AV) (h : AH) : R := match l with | [a0, a1] => S29 c a0 a1 h | _ => none
theorem W29_ok : WOk Tryz.prog 29 W29 := by
  intro c l h r e
  unfold W29 at e
  split at e
  · exact ⟨P29, by rw [S29_eq]; exact e⟩
  · cases e
/- (*quietus/mem.Mem).do -/
def P30 : Pl := (.n none .z (.n none .z (.n none (.n none .z (.n (some [5, 4]) .z .z)) .z)))
def S30 (c : CV) (a0 a1 : AV) (h : AH) : R :=
pBox h 40 a1 fun v0 h1 =>
pBox h1 47 (.agg [(.int .u64 (.ofNat 0)), (.int .u64 (.ofNat 0)), (.bool false), (.int .i64 (.ofNat 0)), (.bool false), (.int .i64 (.ofNat 0))]) fun v2 h3 =>
pBox h3 47 (.agg [(.int .u64 (.ofNat 0)), (.int .u64 (.ofNat 0)), (.bool false), (.int .i64 (.ofNat 0)), (.bool false), (.int .i64 (.ofNat 0))]) fun v4 h5 =>
pFieldA v0 0 fun v6 =>
pLoad1 h5 v6 fun v7 =>
joinC (α := AV × AV × Unit → AH → List Nat → R) (fun s8 h9 d10 =>
pLoadN h9 s8.1 6 fun v12 =>
pStore h9 s8.2.1 v12 6 fun h13 =>
pLeave d10 h13 fun h14 =>
pLoadN h14 s8.2.1 6 fun v15 =>
some (v15, h14)) fun j11 =>
pInt .eql v7 (.int .i64 (.ofNat 1)) fun v16 =>
pCond v16 (
pNil a0 fun v17 =>
pFieldA v17 5 fun v18 =>
pLoad1 h5 v18 fun v19 =>
pFieldA v0 1 fun v20 =>
pLoad1 h5 v20 fun v21 =>
pCall c (.fn 51 [] []) [v19, v21] h5 fun v22 h23 =>
pExtract v22 0 fun v24 =>
pExtract v22 1 fun v25 =>
pFieldA v4 0 fun v26 =>
pStore h23 v26 v24 1 fun h27 =>
pFieldA v4 5 fun v28 =>
pStore h27 v28 v25 1 fun h29 =>
j11 (v4, v2, ()) h29 []) (
pInt .eql v7 (.int .i64 (.ofNat 2)) fun v30 =>
pCond v30 (
pNil a0 fun v31 =>
pFieldA v31 5 fun v32 =>
pLoad1 h5 v32 fun v33 =>
pFieldA v0 1 fun v34 =>
pLoad1 h5 v34 fun v35 =>
pFieldA v0 3 fun v36 =>
pLoad1 h5 v36 fun v37 =>
pCall c (.fn 52 [] []) [v33, v35, v37] h5 fun v38 h39 =>
pFieldA v4 5 fun v40 =>
pStore h39 v40 v38 1 fun h41 =>
j11 (v4, v2, ()) h41 []) (
pInt .eql v7 (.int .i64 (.ofNat 3)) fun v42 =>
pCond v42 (
pNil a0 fun v43 =>
pFieldA v43 6 fun v44 =>
pLoad1 h5 v44 fun v45 =>
pFieldA v0 1 fun v46 =>
pLoad1 h5 v46 fun v47 =>
pCall c (.fn 53 [] []) [v45, v47] h5 fun v48 h49 =>
pExtract v48 0 fun v50 =>
pExtract v48 1 fun v51 =>
pFieldA v4 1 fun v52 =>
pStore h49 v52 v50 3 fun h53 =>
pFieldA v4 5 fun v54 =>
pStore h53 v54 v51 1 fun h55 =>
j11 (v4, v2, ()) h55 []) (
pInt .eql v7 (.int .i64 (.ofNat 4)) fun v56 =>
pCond v56 (
pNil a0 fun v57 =>
pFieldA v57 6 fun v58 =>
pLoad1 h5 v58 fun v59 =>
pFieldA v0 1 fun v60 =>
pLoad1 h5 v60 fun v61 =>
pFieldA v0 4 fun v62 =>
pLoadN h5 v62 3 fun v63 =>
pFieldA v0 7 fun v64 =>
pLoadN h5 v64 3 fun v65 =>
pCall c (.fn 54 [] []) [v59, v61, v63, v65] h5 fun v66 h67 =>
pExtract v66 0 fun v68 =>
pExtract v66 1 fun v69 =>
pFieldA v4 4 fun v70 =>
pStore h67 v70 v68 1 fun h71 =>
pFieldA v4 5 fun v72 =>
pStore h71 v72 v69 1 fun h73 =>
j11 (v4, v2, ()) h73 []) (
pInt .eql v7 (.int .i64 (.ofNat 5)) fun v74 =>
pCond v74 (
pNil a0 fun v75 =>
pFieldA v75 6 fun v76 =>
pLoad1 h5 v76 fun v77 =>
pFieldA v0 1 fun v78 =>
pLoad1 h5 v78 fun v79 =>
pFieldA v0 7 fun v80 =>
pLoadN h5 v80 3 fun v81 =>
pCall c (.fn 55 [] []) [v77, v79, v81] h5 fun v82 h83 =>
pFieldA v4 5 fun v84 =>
pStore h83 v84 v82 1 fun h85 =>
j11 (v4, v2, ()) h85 []) (
pInt .eql v7 (.int .i64 (.ofNat 6)) fun v86 =>
pCond v86 (
pNil a0 fun v87 =>
pFieldA v87 7 fun v88 =>
pLoad1 h5 v88 fun v89 =>
pCall c (.fn 56 [] []) [v89] h5 fun v90 h91 =>
pFieldA v4 0 fun v92 =>
pStore h91 v92 v90 1 fun h93 =>
j11 (v4, v2, ()) h93 []) (
pInt .eql v7 (.int .i64 (.ofNat 7)) fun v94 =>
pCond v94 (
pNil a0 fun v95 =>
pFieldA v95 7 fun v96 =>
pLoad1 h5 v96 fun v97 =>
pFieldA v0 2 fun v98 =>
pLoad1 h5 v98 fun v99 =>
pFieldA v0 3 fun v100 =>
pLoad1 h5 v100 fun v101 =>
pCall c (.fn 57 [] []) [v97, v99, v101] h5 fun v102 h103 =>
pExtract v102 0 fun v104 =>
pExtract v102 1 fun v105 =>
pFieldA v4 4 fun v106 =>
pStore h103 v106 v104 1 fun h107 =>
pFieldA v4 5 fun v108 =>
pStore h107 v108 v105 1 fun h109 =>
j11 (v4, v2, ()) h109 []) (
pInt .eql v7 (.int .i64 (.ofNat 8)) fun v110 =>
pCond v110 (
pNil a0 fun v111 =>
pFieldA v111 8 fun v112 =>
pLoad1 h5 v112 fun v113 =>
pFieldA v0 1 fun v114 =>
pLoad1 h5 v114 fun v115 =>
pCall c (.fn 58 [] []) [v113, v115] h5 fun v116 h117 =>
pExtract v116 0 fun v118 =>
pExtract v116 1 fun v119 =>
pFieldA v4 0 fun v120 =>
pStore h117 v120 v118 1 fun h121 =>
pFieldA v4 5 fun v122 =>
pStore h121 v122 v119 1 fun h123 =>
j11 (v4, v2, ()) h123 []) (
pInt .eql v7 (.int .i64 (.ofNat 9)) fun v124 =>
pCond v124 (
pNil a0 fun v125 =>
pFieldA v125 8 fun v126 =>
pLoad1 h5 v126 fun v127 =>
pFieldA v0 1 fun v128 =>
pLoad1 h5 v128 fun v129 =>
pFieldA v0 3 fun v130 =>
pLoad1 h5 v130 fun v131 =>
pCall c (.fn 59 [] []) [v127, v129, v131] h5 fun v132 h133 =>
pFieldA v4 5 fun v134 =>
pStore h133 v134 v132 1 fun h135 =>
j11 (v4, v2, ()) h135 []) (
pFieldA v4 5 fun v136 =>
pStore h5 v136 (.int .i64 (.ofNat 1)) 1 fun h137 =>
j11 (v4, v2, ()) h137 [])))))))))
theorem S30_eq (c : CV) (a0 a1 : AV) (h : AH) : enterK Tryz.prog NN P30 c 30 [a0, a1] h = S30 c a0 a1 h := by kernel_rfl
def W30 (c : CV) (l : List AV) (h : AH) : R := match l with | [a0, a1] => S30 c a0 a1 h | _ => none
theorem W30_ok : WOk Tryz.prog 30 W30 := by
  intro c l h r e
  unfold W30 at e
  split at e
  · exact ⟨P30, by rw [S30_eq]; exact e⟩
  · cases e
/- quietus/thread.copied -/
def P31 : Pl := (.n none .z (.n none (.r [[2, 1]]) .z))
def S31 (c : CV) (a0 : AV) (h : AH) : R :=
pBox h 58 a0 fun v0 h1 =>
pBox h1 58 (.agg [(.int .i64 (.ofNat 0)), (.int .i64 (.ofNat 0)), (.int .i64 (.ofNat 0)), (.bool false), (.int .i64 (.ofNat 0)), (.int .i64 (.ofNat 0)), (.int .u64 (.ofNat 0)), (.int .u64 (.ofNat 0)), (.int .i64 (.ofNat 0)), (.int .i64 (.ofNat 0)), .nils, .nils, .nils, (.str [])]) fun v2 h3 =>
joinC (α := AV × AV × Unit → AH → R) (fun s4 h5 =>
pLoadN h5 s4.2.1 14 fun v7 =>
pStore h5 s4.1 v7 14 fun h8 =>
pLoadN h8 s4.1 14 fun v9 =>
some (v9, h8)) fun j6 =>
pFieldA v0 10 fun v10 =>
pLoad1 h3 v10 fun v11 =>
pCall c (.fn 60 [] []) [v11] h3 fun v12 h13 =>
pFieldA v0 11 fun v14 =>
pLoad1 h13 v14 fun v15 =>
pCall c (.fn 60 [] []) [v15] h13 fun v16 h17 =>
pFieldA v0 12 fun v18 =>
pLoad1 h17 v18 fun v19 =>
pCall c (.fn 61 [] []) [v19] h17 fun v20 h21 =>
pFieldA v0 10 fun v22 =>
pStore h21 v22 v12 1 fun h23 =>
pFieldA v0 11 fun v24 =>
pStore h23 v24 v16 1 fun h25 =>
pFieldA v0 12 fun v26 =>
pStore h25 v26 v20 1 fun h27 =>
pChk v18 none v19 h13 h17 h3.nx <|
pChk v18 none v19 h3 h13 h3.nx <|
pChk v14 none v15 h3 h13 h3.nx <|
j6 (v2, v0, ()) h27
theorem S31_eq (c : CV) (a0 : AV) (h : AH) : enterK Tryz.prog NN P31 c 31 [a0] h = S31 c a0 h := by kernel_rfl
def W31 (c : CV) (l : List AV) (h : AH) : R := match l with | [a0] => S31 c a0 h | _ => none
theorem W31_ok : WOk Tryz.prog 31 W31 := by
  intro c l h r e
  unfold W31 at e
  split at e
  · exact ⟨P31, by rw [S31_eq]; exact e⟩
  · cases e
/- (*quietus/thread.Thread).told -/
def P32 : Pl := (.n none .z (.n none .z (.n none .z (.n none .z (.n (some [8, 6, 5, 4, 1, 0]) .z (.n none (.r [[4]]) .z))))))
def S32 (c : CV) (a0 a1 : AV) (h : AH) : R :=
pBox h 58 (.agg [(.int .i64 (.ofNat 0)), (.int .i64 (.ofNat 0)), (.int .i64 (.ofNat 0)), (.bool false), (.int .i64 (.ofNat 0)), (.int .i64 (.ofNat 0)), (.int .u64 (.ofNat 0)), (.int .u64 (.ofNat 0)), (.int .i64 (.ofNat 0)), (.int .i64 (.ofNat 0)), .nils, .nils, .nils, (.str [])]) fun v0 h1 =>
pNil a0 fun v2 =>
pFieldA v2 16 fun v3 =>
pLoad1 h1 v3 fun v4 =>
pCall c (.fn 24 [] []) [v4] h1 fun v5 h6 =>
pExtract v5 0 fun v7 =>
pExtract v5 1 fun _ =>
pCall c (.fn 26 [] []) [v4] h6 fun v9 h10 =>
joinC (α := AV × AV × AV × AV × AV × AV × Unit → AH → List Nat → R) (fun s11 h12 d13 =>
joinC (α := AV × Unit → AH → R) (fun s15 h16 =>
pLeave d13 h16 fun h18 =>
pLoadN h18 s15.1 14 fun v19 =>
some (v19, h18)) fun j17 =>
pNil s11.2.2.2.2.2.1 fun v20 =>
pFieldA v20 0 fun v21 =>
pLoad1 h12 v21 fun v22 =>
pNil s11.2.2.2.2.2.1 fun v23 =>
pFieldA v23 10 fun v24 =>
pLoad1 h12 v24 fun v25 =>
pNil s11.2.2.2.2.2.1 fun v26 =>
pFieldA v26 12 fun v27 =>
pFieldA v27 2 fun v28 =>
pLoad1 h12 v28 fun v29 =>
pNil s11.2.2.2.2.2.1 fun v30 =>
pFieldA v30 12 fun v31 =>
pFieldA v31 0 fun v32 =>
pLoad1 h12 v32 fun v33 =>
pCall c (.fn 44 [] []) [s11.2.2.1] h12 fun v34 h35 =>
pCall c (.fn 46 [] []) [s11.2.2.1] h35 fun v36 h37 =>
pNil s11.2.2.2.2.2.1 fun v38 =>
pFieldA v38 17 fun v39 =>
pLoad1 h37 v39 fun v40 =>
pCall c (.fn 62 [] []) [s11.2.2.1] h37 fun v41 h42 =>
pCall c (.fn 63 [] []) [s11.2.2.1] h42 fun v43 h44 =>
pCall c (.fn 48 [] []) [s11.2.2.1] h44 fun v45 h46 =>
pCall c (.fn 45 [] []) [s11.2.2.1] h46 fun v47 h48 =>
pBuild [(.int .i64 (.ofNat 0)), (.int .i64 (.ofNat 0)), (.int .i64 (.ofNat 0)), (.bool false), (.int .i64 (.ofNat 0)), (.int .i64 (.ofNat 0)), (.int .u64 (.ofNat 0)), (.int .u64 (.ofNat 0)), (.int .i64 (.ofNat 0)), (.int .i64 (.ofNat 0)), .nils, .nils, .nils, (.str [])] [(0, 1, v22), (1, 1, v25), (2, 1, v29), (3, 1, v33), (4, 1, s11.1), (5, 1, v34), (6, 1, s11.2.1), (7, 1, v36), (8, 1, v40), (9, 1, s11.2.2.2.2.1), (10, 1, v41), (11, 1, v43), (12, 1, v45), (13, 1, v47)] fun v49 =>
pStore h48 s11.2.2.2.1 v49 14 fun h50 =>
pChk v39 none v40 h46 h48 h12.nx <|
pChk v39 none v40 h44 h46 h12.nx <|
pChk v39 none v40 h42 h44 h12.nx <|
pChk v39 none v40 h37 h42 h12.nx <|
pChk v39 none v40 h35 h37 h12.nx <|
pChk v39 none v40 h12 h35 h12.nx <|
pChk v32 none v33 h46 h48 h12.nx <|
pChk v32 none v33 h44 h46 h12.nx <|
pChk v32 none v33 h42 h44 h12.nx <|
pChk v32 none v33 h37 h42 h12.nx <|
pChk v32 none v33 h35 h37 h12.nx <|
pChk v32 none v33 h12 h35 h12.nx <|
pChk v28 none v29 h46 h48 h12.nx <|
pChk v28 none v29 h44 h46 h12.nx <|
pChk v28 none v29 h42 h44 h12.nx <|
pChk v28 none v29 h37 h42 h12.nx <|
pChk v28 none v29 h35 h37 h12.nx <|
pChk v28 none v29 h12 h35 h12.nx <|
pChk v24 none v25 h46 h48 h12.nx <|
pChk v24 none v25 h44 h46 h12.nx <|
pChk v24 none v25 h42 h44 h12.nx <|
pChk v24 none v25 h37 h42 h12.nx <|
pChk v24 none v25 h35 h37 h12.nx <|
pChk v24 none v25 h12 h35 h12.nx <|
pChk v21 none v22 h46 h48 h12.nx <|
pChk v21 none v22 h44 h46 h12.nx <|
pChk v21 none v22 h42 h44 h12.nx <|
pChk v21 none v22 h37 h42 h12.nx <|
pChk v21 none v22 h35 h37 h12.nx <|
pChk v21 none v22 h12 h35 h12.nx <|
j17 (s11.2.2.2.1, ()) h50) fun j14 =>
pCall c (.fn 35 [] []) [v4] h10 fun v51 h52 =>
pCond v51 (
j14 ((.int .i64 (.ofNat 2)), v7, v4, v0, a1, a0, ()) h52 []) (
j14 (v9, v7, v4, v0, a1, a0, ()) h52 [])
theorem S32_eq (c : CV) (a0 a1 : AV) (h : AH) : enterK Tryz.prog NN P32 c 32 [a0, a1] h = S32 c a0 a1 h := by kernel_rfl
def W32 (c : CV) (l : List AV) (h : AH) : R := match l with | [a0, a1] => S32 c a0 a1 h | _ => none
theorem W32_ok : WOk Tryz.prog 32 W32 := by
  intro c l h r e
  unfold W32 at e
  split at e
  · exact ⟨P32, by rw [S32_eq]; exact e⟩
  · cases e
/- slices.Clone[[]quietus/api.Result,quietus/api.Result] -/
def P33 : Pl := .z
def S33 (_ : CV) (a0 : AV) (h : AH) : R :=
pEq .slc false a0 .nils fun v0 =>
pCond v0 (
some (.nils, h)) (
pBuildS h 54 [(.int .i64 (.ofNat 0)), (.int .i64 (.ofNat 0)), (.str []), (.int .u64 (.ofNat 0))] 0 [] fun v1 h2 =>
pAppend h2 54 4 v1 a0 fun v3 h4 =>
some (v3, h4))
theorem S33_eq (c : CV) (a0 : AV) (h : AH) : enterK Tryz.prog NN P33 c 33 [a0] h = S33 c a0 h := by kernel_rfl
def W33 (c : CV) (l : List AV) (h : AH) : R := match l with | [a0] => S33 c a0 h | _ => none
theorem W33_ok : WOk Tryz.prog 33 W33 := by
  intro c l h r e
  unfold W33 at e
  split at e
  · exact ⟨P33, by rw [S33_eq]; exact e⟩
  · cases e
/- (*quietus/limbo.Limbo).All -/
def P34 : Pl := .z
def S34 (c : CV) (a0 : AV) (h : AH) : R :=
pNil a0 fun v0 =>
pFieldA v0 0 fun v1 =>
pLoad1 h v1 fun v2 =>
pCall c (.fn 64 [] []) [v2] h fun v3 h4 =>
some (v3, h4)
theorem S34_eq (c : CV) (a0 : AV) (h : AH) : enterK Tryz.prog NN P34 c 34 [a0] h = S34 c a0 h := by kernel_rfl
def W34 (c : CV) (l : List AV) (h : AH) : R := match l with | [a0] => S34 c a0 h | _ => none
theorem W34_ok : WOk Tryz.prog 34 W34 := by
  intro c l h r e
  unfold W34 at e
  split at e
  · exact ⟨P34, by rw [S34_eq]; exact e⟩
  · cases e
/- (*quietus/attempt.Attempt).Writing -/
def P35 : Pl := (.n none .z (.n none (.r [[13, 8, 0], [21, 15, 0], [27, 21, 15], [28, 15]]) .z))
def S35 (c : CV) (a0 : AV) (h : AH) : R :=
pNil a0 fun v0 =>
pFieldA v0 14 fun v1 =>
pLoad1 h v1 fun v2 =>
pInt .neq v2 (.int .i64 (.ofNat 8)) fun v3 =>
joinC (α := AV × AV × AV × Unit → AH → R) (fun s4 h5 =>
pPick s4.2.1 s4.1 (.bool false) fun v7 =>
joinC (α := AV × AV × AV × Unit → AH → R) (fun s8 h9 =>
joinC (α := AV × AV × AV × Unit → AH → R) (fun s11 h12 =>
joinC (α := AV × AV × Unit → AH → R) (fun s14 h15 =>
pPick s14.2.1 s14.1 (.bool false) fun v17 =>
some (v17, h15)) fun j16 =>
pWant s11.2.2.1 true (
pPick s11.2.1 (.bool true) s11.1 fun v18 =>
j16 (v18, s11.2.2.1, ()) h12) (
j16 (.undef, s11.2.2.1, ()) h12)) fun j13 =>
pWant s8.1 false (
pNil s8.2.2.1 fun v19 =>
pFieldA v19 18 fun v20 =>
pLoad1 h9 v20 fun v21 =>
pCall c (.fn 66 [] []) [v21] h9 fun v22 h23 =>
pInt .eql v22 (.int .i64 (.ofNat 2)) fun v24 =>
j13 (v24, s8.1, s8.2.1, ()) h23) (
j13 (.undef, s8.1, s8.2.1, ()) h9)) fun j10 =>
pWant v7 true (
pNil s4.2.2.1 fun v25 =>
pFieldA v25 18 fun v26 =>
pLoad1 h5 v26 fun v27 =>
pCall c (.fn 65 [] []) [v27] h5 fun v28 h29 =>
j10 (v28, v7, s4.2.2.1, ()) h29) (
j10 (.undef, v7, s4.2.2.1, ()) h5)) fun j6 =>
pWant v3 true (
pNil a0 fun v30 =>
pFieldA v30 18 fun v31 =>
pLoad1 h v31 fun v32 =>
pEq .ptr true v32 .nilp fun v33 =>
j6 (v33, v3, a0, ()) h) (
j6 (.undef, v3, a0, ()) h)
theorem S35_eq (c : CV) (a0 : AV) (h : AH) : enterK Tryz.prog NN P35 c 35 [a0] h = S35 c a0 h := by kernel_rfl
def W35 (c : CV) (l : List AV) (h : AH) : R := match l with | [a0] => S35 c a0 h | _ => none
theorem W35_ok : WOk Tryz.prog 35 W35 := by
  intro c l h r e
  unfold W35 at e
  split at e
  · exact ⟨P35, by rw [S35_eq]; exact e⟩
  · cases e
/- quietus/stripe.near -/
def P36 : Pl := .z
def S36 (_ : CV) (a0 a1 : AV) (h : AH) : R :=
pMM false [a0, a1] fun v0 =>
pMM true [(.int .i64 (.ofNat 1)), v0] fun v1 =>
some (v1, h)
theorem S36_eq (c : CV) (a0 a1 : AV) (h : AH) : enterK Tryz.prog NN P36 c 36 [a0, a1] h = S36 c a0 a1 h := by kernel_rfl
def W36 (c : CV) (l : List AV) (h : AH) : R := match l with | [a0, a1] => S36 c a0 a1 h | _ => none
theorem W36_ok : WOk Tryz.prog 36 W36 := by
  intro c l h r e
  unfold W36 at e
  split at e
  · exact ⟨P36, by rw [S36_eq]; exact e⟩
  · cases e
/- (*quietus/thread.Thread).again -/
def P37 : Pl := (.n none .z (.n none (.n (some [0]) (.n none .z (.n none .z (.n none .z (.n none (.n none .z (.n none (.n none .z (.n none (.n (some [62, 61, 60, 2, 0]) .z .z) .z)) .z)) .z)))) .z) .z))
def S37 (c : CV) (a0 : AV) (h : AH) : R :=
pNil a0 fun v0 =>
pFieldA v0 17 fun v1 =>
pStore h v1 (.int .i64 (.ofNat 0)) 1 fun h2 =>
pNil a0 fun v3 =>
pFieldA v3 18 fun v4 =>
pStore h2 v4 (.bool false) 1 fun h5 =>
joinC (α := AV × Unit → AH → List Nat → R) (fun s6 h7 d8 =>
pNil s6.1 fun v10 =>
pFieldA v10 11 fun v11 =>
pStore h7 v11 (.int .i64 (.ofNat 1)) 1 fun h12 =>
pLeave d8 h12 fun h13 =>
some ((.tup []), h13)) fun j9 =>
pNil a0 fun v14 =>
pFieldA v14 10 fun v15 =>
pLoad1 h5 v15 fun v16 =>
pNil a0 fun v17 =>
pFieldA v17 9 fun v18 =>
pLoad1 h5 v18 fun v19 =>
pLenS v19 fun v20 =>
pInt .eql v16 v20 fun v21 =>
pCond v21 (
pNil a0 fun v22 =>
pFieldA v22 11 fun v23 =>
pStore h5 v23 (.int .i64 (.ofNat 6)) 1 fun h24 =>
pNil a0 fun v25 =>
pFieldA v25 16 fun v26 =>
pStore h24 v26 .nilp 1 fun h27 =>
some ((.tup []), h27)) (
pNil a0 fun v28 =>
pFieldA v28 12 fun v29 =>
pFieldA v29 0 fun v30 =>
pLoad1 h5 v30 fun v31 =>
pCond v31 (
pNil a0 fun v32 =>
pFieldA v32 12 fun v33 =>
pFieldA v33 1 fun v34 =>
pLoad1 h5 v34 fun v35 =>
pLenS v35 fun v36 =>
loopC (σ := AV × AV × AV × AV × AV × Unit) NN (fun i40 s37 h38 d39 =>
pInt .lss s37.1 s37.2.1 fun v41 =>
pCond v41 (
pIdxS s37.2.2.1 s37.1 2 fun v42 =>
pLoadN h38 v42 2 fun v43 =>
pBox h38 138 (.agg [(.int .i64 (.ofNat 0)), (.int .u64 (.ofNat 0))]) fun v44 h45 =>
pStore h45 v44 v43 2 fun h46 =>
pFieldA v44 0 fun v47 =>
pLoad1 h46 v47 fun v48 =>
pBuildS h46 3 [(.int .i64 (.ofNat 0))] 1 [(0, 1, v48)] fun v49 h50 =>
pAppend h50 3 1 s37.2.2.2.1 v49 fun v51 h52 =>
pInt .add s37.1 (.int .i64 (.ofNat 1)) fun v53 =>
i40 (v53, s37.2.1, s37.2.2.1, v51, s37.2.2.2.2.1, ()) h52 d39) (
pNil s37.2.2.2.2.1 fun v54 =>
pFieldA v54 0 fun v55 =>
pLoad1 h38 v55 fun v56 =>
pNil s37.2.2.2.2.1 fun v57 =>
pFieldA v57 1 fun v58 =>
pLoadN h38 v58 8 fun v59 =>
pCall c (.fn 67 [] []) [v56, v59, s37.2.2.2.1] h38 fun v60 h61 =>
pNil s37.2.2.2.2.1 fun v62 =>
pFieldA v62 16 fun v63 =>
pStore h61 v63 v60 1 fun h64 =>
j9 (s37.2.2.2.2.1, ()) h64 d39)) ((.int .i64 (.ofNat 0)), v36, v35, .nils, a0, ()) h5 []) (
pNil a0 fun v65 =>
pFieldA v65 0 fun v66 =>
pLoad1 h5 v66 fun v67 =>
pNil a0 fun v68 =>
pFieldA v68 1 fun v69 =>
pLoadN h5 v69 8 fun v70 =>
pNil a0 fun v71 =>
pFieldA v71 9 fun v72 =>
pLoad1 h5 v72 fun v73 =>
pNil a0 fun v74 =>
pFieldA v74 10 fun v75 =>
pLoad1 h5 v75 fun v76 =>
pIdxS v73 v76 1 fun v77 =>
pLoadN h5 v77 1 fun v78 =>
pCall c (.fn 68 [] []) [v67, v70, v78] h5 fun v79 h80 =>
pNil a0 fun v81 =>
pFieldA v81 16 fun v82 =>
pStore h80 v82 v79 1 fun h83 =>
j9 (a0, ()) h83 []))
theorem S37_eq (c : CV) (a0 : AV) (h : AH) : enterK Tryz.prog NN P37 c 37 [a0] h = S37 c a0 h := by kernel_rfl
def W37 (c : CV) (l : List AV) (h : AH) : R := match l with | [a0] => S37 c a0 h | _ => none
theorem W37_ok : WOk Tryz.prog 37 W37 := by
  intro c l h r e
  unfold W37 at e
  split at e
  · exact ⟨P37, by rw [S37_eq]; exact e⟩
  · cases e
/- (*quietus/attempt.Attempt).out -/
def P38 : Pl := .z
def S38 (_ : CV) (a0 a1 a2 a3 : AV) (h : AH) : R :=
pNil a0 fun v0 =>
pFieldA v0 22 fun v1 =>
pStore h v1 a1 1 fun h2 =>
pNil a0 fun v3 =>
pFieldA v3 24 fun v4 =>
pStore h2 v4 a2 1 fun h5 =>
pNil a0 fun v6 =>
pFieldA v6 23 fun v7 =>
pStore h5 v7 a3 1 fun h8 =>
pNil a0 fun v9 =>
pFieldA v9 14 fun v10 =>
pStore h8 v10 (.int .i64 (.ofNat 7)) 1 fun h11 =>
some ((.tup []), h11)
theorem S38_eq (c : CV) (a0 a1 a2 a3 : AV) (h : AH) : enterK Tryz.prog NN P38 c 38 [a0, a1, a2, a3] h = S38 c a0 a1 a2 a3 h := by kernel_rfl
def W38 (c : CV) (l : List AV) (h : AH) : R := match l with | [a0, a1, a2, a3] => S38 c a0 a1 a2 a3 h | _ => none
theorem W38_ok : WOk Tryz.prog 38 W38 := by
  intro c l h r e
  unfold W38 at e
  split at e
  · exact ⟨P38, by rw [S38_eq]; exact e⟩
  · cases e
/- (*quietus/attempt.Attempt).work -/
def P39 : Pl := (.n none .z (.n none .z (.n (some []) (.n none .z (.n none .z (.n none .z (.n none .z (.n none .z (.n none .z (.n none .z (.n none .z (.n none (.r [[0]]) .z))))))))) .z)))
def S39 (c : CV) (a0 : AV) (h : AH) : R :=
pCall c (.fn 69 [] []) [a0] h fun v0 h1 =>
pExtract v0 0 fun v2 =>
pExtract v0 1 fun v3 =>
joinC (α := Unit → AH → List Nat → R) (fun _ h5 d6 =>
pLeave d6 h5 fun h8 =>
some ((.tup []), h8)) fun j7 =>
pInt .eql v2 (.int .i64 (.ofNat 1)) fun v9 =>
pCond v9 (
pNil a0 fun v10 =>
pFieldA v10 12 fun v11 =>
pLoad1 h1 v11 fun v12 =>
pCall c (.fn 71 [] []) [v12] h1 fun v13 h14 =>
pCall c (.fn 70 [] []) [a0, v13] h14 fun _ h16 =>
j7 (()) h16 []) (
pInt .eql v2 (.int .i64 (.ofNat 3)) fun v17 =>
pCond v17 (
pNil a0 fun v18 =>
pFieldA v18 25 fun v19 =>
pStore h1 v19 (.bool true) 1 fun h20 =>
pCall c (.fn 72 [] []) [a0, (.int .i64 (.ofNat 5))] h20 fun _ h22 =>
j7 (()) h22 []) (
pInt .eql v2 (.int .i64 (.ofNat 4)) fun v23 =>
pCond v23 (
pCall c (.fn 38 [] []) [a0, (.int .i64 (.ofNat 4)), v3, (.int .i64 (.negSucc 0))] h1 fun _ h25 =>
j7 (()) h25 []) (
pNil a0 fun v26 =>
pFieldA v26 12 fun v27 =>
pLoad1 h1 v27 fun v28 =>
pCall c (.fn 73 [] []) [v28] h1 fun v29 h30 =>
pLenS v29 fun v31 =>
pInt .eql v31 (.int .i64 (.ofNat 0)) fun v32 =>
pCond v32 (
pCall c (.fn 38 [] []) [a0, (.int .i64 (.ofNat 2)), (.int .i64 (.ofNat 0)), (.int .i64 (.negSucc 0))] h30 fun _ h34 =>
some ((.tup []), h34)) (
joinC (α := AV × Unit → AH → R) (fun s35 h36 =>
pNil s35.1 fun v38 =>
pFieldA v38 18 fun v39 =>
pLoad1 h36 v39 fun v40 =>
pCall c (.fn 76 [] []) [s35.1, (.int .i64 (.ofNat 6)), (.iface 111 v40)] h36 fun _ h42 =>
j7 (()) h42 []) fun j37 =>
pNil a0 fun v43 =>
pFieldA v43 0 fun v44 =>
pLoad1 h30 v44 fun v45 =>
pNil a0 fun v46 =>
pFieldA v46 1 fun v47 =>
pFieldA v47 5 fun v48 =>
pLoad1 h30 v48 fun v49 =>
pNil a0 fun v50 =>
pFieldA v50 21 fun v51 =>
pLoad1 h30 v51 fun v52 =>
pNil a0 fun v53 =>
pFieldA v53 13 fun v54 =>
pLoad1 h30 v54 fun v55 =>
pCall c (.fn 75 [] []) [v55] h30 fun v56 h57 =>
pNil a0 fun v58 =>
pFieldA v58 1 fun v59 =>
pFieldA v59 0 fun v60 =>
pFieldA v60 1 fun v61 =>
pLoad1 h57 v61 fun v62 =>
pNil a0 fun v63 =>
pFieldA v63 1 fun v64 =>
pFieldA v64 0 fun v65 =>
pFieldA v65 2 fun v66 =>
pLoad1 h57 v66 fun v67 =>
pCall c (.fn 74 [] []) [v45, v49, v52, v56, v29, v62, v67] h57 fun v68 h69 =>
pNil a0 fun v70 =>
pFieldA v70 18 fun v71 =>
pStore h69 v71 v68 1 fun h72 =>
pChk v66 none v67 h30 h57 h30.nx <|
pChk v61 none v62 h30 h57 h30.nx <|
pChk v51 none v52 h30 h57 h30.nx <|
pChk v48 none v49 h30 h57 h30.nx <|
pChk v44 none v45 h30 h57 h30.nx <|
j37 (a0, ()) h72))))
theorem S39_eq (c : CV) (a0 : AV) (h : AH) : enterK Tryz.prog NN P39 c 39 [a0] h = S39 c a0 h := by kernel_rfl
def W39 (c : CV) (l : List AV) (h : AH) : R := match l with | [a0] => S39 c a0 h | _ => none
theorem W39_ok : WOk Tryz.prog 39 W39 := by
  intro c l h r e
  unfold W39 at e
  split at e
  · exact ⟨P39, by rw [S39_eq]; exact e⟩
  · cases e
/- (*quietus/attempt.Attempt).told -/
def P40 : Pl := .z
def S40 (_ : CV) (a0 : AV) (h : AH) : R :=
pNil a0 fun v0 =>
pFieldA v0 15 fun v1 =>
pLoad1 h v1 fun _ =>
none /- op -/
theorem S40_eq (c : CV) (a0 : AV) (h : AH) : enterK Tryz.prog NN P40 c 40 [a0] h = S40 c a0 h := by kernel_rfl
def W40 (c : CV) (l : List AV) (h : AH) : R := match l with | [a0] => S40 c a0 h | _ => none
theorem W40_ok : WOk Tryz.prog 40 W40 := by
  intro c l h r e
  unfold W40 at e
  split at e
  · exact ⟨P40, by rw [S40_eq]; exact e⟩
  · cases e
/- (*quietus/attempt.Attempt).By -/
def P41 : Pl := .z
def S41 (_ : CV) (a0 : AV) (h : AH) : R :=
pNil a0 fun v0 =>
pFieldA v0 14 fun v1 =>
pLoad1 h v1 fun v2 =>
pInt .neq v2 (.int .i64 (.ofNat 8)) fun v3 =>
pCond v3 (
some ((.int .i64 (.negSucc 0)), h)) (
pNil a0 fun v4 =>
pFieldA v4 23 fun v5 =>
pLoad1 h v5 fun v6 =>
some (v6, h))
theorem S41_eq (c : CV) (a0 : AV) (h : AH) : enterK Tryz.prog NN P41 c 41 [a0] h = S41 c a0 h := by kernel_rfl
def W41 (c : CV) (l : List AV) (h : AH) : R := match l with | [a0] => S41 c a0 h | _ => none
theorem W41_ok : WOk Tryz.prog 41 W41 := by
  intro c l h r e
  unfold W41 at e
  split at e
  · exact ⟨P41, by rw [S41_eq]; exact e⟩
  · cases e
/- (*quietus/thread.Thread).pause -/
def P42 : Pl := (.n none .z (.n none (.n none .z (.n none (.n (some [11, 10, 4, 1, 0]) .z .z) .z)) .z))
def S42 (c : CV) (a0 a1 : AV) (h : AH) : R :=
pNil a0 fun v0 =>
pFieldA v0 12 fun v1 =>
pFieldA v1 3 fun v2 =>
pLoad1 h v2 fun v3 =>
pMM false [v3, (.int .i64 (.ofNat 8))] fun v4 =>
loopC (σ := AV × AV × AV × AV × AV × Unit) NN (fun i8 s5 h6 d7 =>
pInt .lss s5.1 s5.2.1 fun v9 =>
pCond v9 (
pInt .mul (.int .i64 (.ofNat 2)) s5.2.2.1 fun v10 =>
pMM false [v10, (.int .i64 (.ofNat 8))] fun v11 =>
pInt .add s5.1 (.int .i64 (.ofNat 1)) fun v12 =>
i8 (v12, s5.2.1, v11, s5.2.2.2.1, s5.2.2.2.2.1, ()) h6 d7) (
pConvI .i64 s5.2.2.2.1 fun v13 =>
pInt .add s5.2.2.1 (.int .i64 (.ofNat 1)) fun v14 =>
pInt .rem v13 v14 fun v15 =>
pNil s5.2.2.2.2.1 fun v16 =>
pFieldA v16 26 fun v17 =>
pStore h6 v17 v15 1 fun h18 =>
pNil s5.2.2.2.2.1 fun v19 =>
pFieldA v19 11 fun v20 =>
pStore h18 v20 (.int .i64 (.ofNat 3)) 1 fun h21 =>
pNil s5.2.2.2.2.1 fun v22 =>
pFieldA v22 26 fun v23 =>
pLoad1 h21 v23 fun v24 =>
pInt .eql v24 (.int .i64 (.ofNat 0)) fun v25 =>
pCond v25 (
pCall c (.fn 37 [] []) [s5.2.2.2.2.1] h21 fun _ h27 =>
pLeave d7 h27 fun h28 =>
some ((.tup []), h28)) (
pLeave d7 h21 fun h29 =>
some ((.tup []), h29)))) ((.int .i64 (.ofNat 0)), v4, (.int .i64 (.ofNat 1)), a1, a0, ()) h []
theorem S42_eq (c : CV) (a0 a1 : AV) (h : AH) : enterK Tryz.prog NN P42 c 42 [a0, a1] h = S42 c a0 a1 h := by kernel_rfl
def W42 (c : CV) (l : List AV) (h : AH) : R := match l with | [a0, a1] => S42 c a0 a1 h | _ => none
theorem W42_ok : WOk Tryz.prog 42 W42 := by
  intro c l h r e
  unfold W42 at e
  split at e
  · exact ⟨P42, by rw [S42_eq]; exact e⟩
  · cases e
/- (*quietus/thread.Thread).swept -/
def P43 : Pl := (.n (some [0]) (.n none .z (.n none (.n none .z (.n none (.n (some [14, 13, 12, 0]) .z .z) .z)) .z)) .z)
def S43 (c : CV) (a0 a1 : AV) (h : AH) : R :=
joinC (α := AV × Unit → AH → List Nat → R) (fun s0 h1 d2 =>
pCall c (.fn 22 [] []) [s0.1] h1 fun _ h5 =>
pLeave d2 h5 fun h6 =>
some ((.tup []), h6)) fun j3 =>
pInt .eql a1 (.int .i64 (.ofNat 4)) fun v7 =>
pCond v7 (
pNil a0 fun v8 =>
pFieldA v8 12 fun v9 =>
pFieldA v9 1 fun v10 =>
pLoad1 h v10 fun v11 =>
pLenS v11 fun v12 =>
loopC (σ := AV × AV × AV × AV × Unit) NN (fun i16 s13 h14 d15 =>
pInt .lss s13.1 s13.2.1 fun v17 =>
pCond v17 (
pIdxS s13.2.2.1 s13.1 2 fun v18 =>
pLoadN h14 v18 2 fun v19 =>
pBox h14 138 (.agg [(.int .i64 (.ofNat 0)), (.int .u64 (.ofNat 0))]) fun v20 h21 =>
pStore h21 v20 v19 2 fun h22 =>
pNil s13.2.2.2.1 fun v23 =>
pFieldA v23 21 fun v24 =>
pLoad1 h22 v24 fun v25 =>
pFieldA v20 1 fun v26 =>
pLoad1 h22 v26 fun v27 =>
pFieldA v20 0 fun v28 =>
pLoad1 h22 v28 fun v29 =>
pBuildS h22 3 [(.int .i64 (.ofNat 0))] 1 [(0, 1, v29)] fun v30 h31 =>
pCall c (.fn 47 [] []) [v25, v27, v30] h31 fun _ h33 =>
pInt .add s13.1 (.int .i64 (.ofNat 1)) fun v34 =>
i16 (v34, s13.2.1, s13.2.2.1, s13.2.2.2.1, ()) h33 d15) (
j3 (s13.2.2.2.1, ()) h14 d15)) ((.int .i64 (.ofNat 0)), v12, v11, a0, ()) h []) (
j3 (a0, ()) h [])
theorem S43_eq (c : CV) (a0 a1 : AV) (h : AH) : enterK Tryz.prog NN P43 c 43 [a0, a1] h = S43 c a0 a1 h := by kernel_rfl
def W43 (c : CV) (l : List AV) (h : AH) : R := match l with | [a0, a1] => S43 c a0 a1 h | _ => none
theorem W43_ok : WOk Tryz.prog 43 W43 := by
  intro c l h r e
  unfold W43 at e
  split at e
  · exact ⟨P43, by rw [S43_eq]; exact e⟩
  · cases e
/- (*quietus/attempt.Attempt).Err -/
def P44 : Pl := .z
def S44 (_ : CV) (a0 : AV) (h : AH) : R :=
pNil a0 fun v0 =>
pFieldA v0 14 fun v1 =>
pLoad1 h v1 fun v2 =>
pInt .neq v2 (.int .i64 (.ofNat 8)) fun v3 =>
pCond v3 (
some ((.int .i64 (.ofNat 0)), h)) (
pNil a0 fun v4 =>
pFieldA v4 24 fun v5 =>
pLoad1 h v5 fun v6 =>
some (v6, h))
theorem S44_eq (c : CV) (a0 : AV) (h : AH) : enterK Tryz.prog NN P44 c 44 [a0] h = S44 c a0 h := by kernel_rfl
def W44 (c : CV) (l : List AV) (h : AH) : R := match l with | [a0] => S44 c a0 h | _ => none
theorem W44_ok : WOk Tryz.prog 44 W44 := by
  intro c l h r e
  unfold W44 at e
  split at e
  · exact ⟨P44, by rw [S44_eq]; exact e⟩
  · cases e
/- (*quietus/attempt.Attempt).Slate -/
def P45 : Pl := (.n none .z (.n none (.n none (.r [[11, 6, 0]]) .z) .z))
def S45 (c : CV) (a0 : AV) (h : AH) : R :=
pCall c (.fn 79 [] []) [a0] h fun v0 h1 =>
pUn .not v0 fun v2 =>
joinC (α := AV × AV × AV × Unit → AH → R) (fun s3 h4 =>
pPick s3.2.1 (.bool true) s3.1 fun v6 =>
pCond v6 (
some ((.str []), h4)) (
pNil s3.2.2.1 fun v7 =>
pFieldA v7 9 fun v8 =>
pLoad1 h4 v8 fun v9 =>
pCall c (.fn 80 [] []) [v9] h4 fun v10 h11 =>
pCall c (.fn 81 [] []) [v10] h11 fun v12 h13 =>
some (v12, h13))) fun j5 =>
pWant v2 false (
pNil a0 fun v14 =>
pFieldA v14 9 fun v15 =>
pLoad1 h1 v15 fun v16 =>
pEq .ptr false v16 .nilp fun v17 =>
j5 (v17, v2, a0, ()) h1) (
j5 (.undef, v2, a0, ()) h1)
theorem S45_eq (c : CV) (a0 : AV) (h : AH) : enterK Tryz.prog NN P45 c 45 [a0] h = S45 c a0 h := by kernel_rfl
def W45 (c : CV) (l : List AV) (h : AH) : R := match l with | [a0] => S45 c a0 h | _ => none
theorem W45_ok : WOk Tryz.prog 45 W45 := by
  intro c l h r e
  unfold W45 at e
  split at e
  · exact ⟨P45, by rw [S45_eq]; exact e⟩
  · cases e
/- (*quietus/attempt.Attempt).Stamp -/
def P46 : Pl := .z
def S46 (_ : CV) (a0 : AV) (h : AH) : R :=
pNil a0 fun v0 =>
pFieldA v0 21 fun v1 =>
pLoad1 h v1 fun v2 =>
some (v2, h)
theorem S46_eq (c : CV) (a0 : AV) (h : AH) : enterK Tryz.prog NN P46 c 46 [a0] h = S46 c a0 h := by kernel_rfl
def W46 (c : CV) (l : List AV) (h : AH) : R := match l with | [a0] => S46 c a0 h | _ => none
theorem W46_ok : WOk Tryz.prog 46 W46 := by
  intro c l h r e
  unfold W46 at e
  split at e
  · exact ⟨P46, by rw [S46_eq]; exact e⟩
  · cases e
/- (*quietus/limbo.Limbo).Add -/
def P47 : Pl := (.n none .z (.n none (.n (some [10, 9, 8, 1, 0]) .z .z) .z))
def S47 (_ : CV) (a0 a1 a2 : AV) (h : AH) : R :=
pLenS a2 fun v0 =>
loopC (σ := AV × AV × AV × AV × AV × Unit) NN (fun i4 s1 h2 d3 =>
pInt .lss s1.1 s1.2.1 fun v5 =>
pCond v5 (
pIdxS s1.2.2.1 s1.1 1 fun v6 =>
pLoad1 h2 v6 fun v7 =>
pNil s1.2.2.2.2.1 fun v8 =>
pFieldA v8 0 fun v9 =>
pLoad1 h2 v9 fun v10 =>
pBuild [(.int .i64 (.ofNat 0)), (.int .u64 (.ofNat 0))] [(0, 1, v7), (1, 1, s1.2.2.2.1)] fun v11 =>
pBuildS h2 138 [(.int .i64 (.ofNat 0)), (.int .u64 (.ofNat 0))] 1 [(0, 2, v11)] fun v12 h13 =>
pAppend h13 138 2 v10 v12 fun v14 h15 =>
pNil s1.2.2.2.2.1 fun v16 =>
pFieldA v16 0 fun v17 =>
pStore h15 v17 v14 1 fun h18 =>
pInt .add s1.1 (.int .i64 (.ofNat 1)) fun v19 =>
i4 (v19, s1.2.1, s1.2.2.1, s1.2.2.2.1, s1.2.2.2.2.1, ()) h18 d3) (
pLeave d3 h2 fun h20 =>
some ((.tup []), h20))) ((.int .i64 (.ofNat 0)), v0, a2, a1, a0, ()) h []
theorem S47_eq (c : CV) (a0 a1 a2 : AV) (h : AH) : enterK Tryz.prog NN P47 c 47 [a0, a1, a2] h = S47 c a0 a1 a2 h := by kernel_rfl
def W47 (c : CV) (l : List AV) (h : AH) : R := match l with | [a0, a1, a2] => S47 c a0 a1 a2 h | _ => none
theorem W47_ok : WOk Tryz.prog 47 W47 := by
  intro c l h r e
  unfold W47 at e
  split at e
  · exact ⟨P47, by rw [S47_eq]; exact e⟩
  · cases e
/- (*quietus/attempt.Attempt).Frees -/
def P48 : Pl := .z
def S48 (c : CV) (a0 : AV) (h : AH) : R :=
pCall c (.fn 79 [] []) [a0] h fun v0 h1 =>
pUn .not v0 fun v2 =>
pCond v2 (
some (.nils, h1)) (
pNil a0 fun v3 =>
pFieldA v3 9 fun v4 =>
pLoad1 h1 v4 fun v5 =>
pEq .ptr false v5 .nilp fun v6 =>
pCond v6 (
pNil a0 fun v7 =>
pFieldA v7 10 fun v8 =>
pLoad1 h1 v8 fun v9 =>
pCall c (.fn 61 [] []) [v9] h1 fun v10 h11 =>
some (v10, h11)) (
pNil a0 fun v12 =>
pFieldA v12 12 fun v13 =>
pLoad1 h1 v13 fun v14 =>
pCall c (.fn 82 [] []) [v14] h1 fun v15 h16 =>
some (v15, h16)))
theorem S48_eq (c : CV) (a0 : AV) (h : AH) : enterK Tryz.prog NN P48 c 48 [a0] h = S48 c a0 h := by kernel_rfl
def W48 (c : CV) (l : List AV) (h : AH) : R := match l with | [a0] => S48 c a0 h | _ => none
theorem W48_ok : WOk Tryz.prog 48 W48 := by
  intro c l h r e
  unfold W48 at e
  split at e
  · exact ⟨P48, by rw [S48_eq]; exact e⟩
  · cases e
/- (*quietus/thread.Thread).over -/
def P49 : Pl := .z
def S49 (c : CV) (a0 : AV) (h : AH) : R :=
pNil a0 fun v0 =>
pFieldA v0 21 fun v1 =>
pLoad1 h v1 fun v2 =>
pCall c (.fn 83 [] []) [v2] h fun v3 h4 =>
pInt .eql v3 (.int .i64 (.ofNat 0)) fun v5 =>
pCond v5 (
pCall c (.fn 22 [] []) [a0] h4 fun _ h7 =>
some ((.tup []), h7)) (
pNil a0 fun v8 =>
pFieldA v8 11 fun v9 =>
pStore h4 v9 (.int .i64 (.ofNat 5)) 1 fun h10 =>
pNil a0 fun v11 =>
pFieldA v11 22 fun v12 =>
pStore h10 v12 .nils 1 fun h13 =>
pCall c (.fn 50 [] []) [a0] h13 fun _ h15 =>
some ((.tup []), h15))
theorem S49_eq (c : CV) (a0 : AV) (h : AH) : enterK Tryz.prog NN P49 c 49 [a0] h = S49 c a0 h := by kernel_rfl
def W49 (c : CV) (l : List AV) (h : AH) : R := match l with | [a0] => S49 c a0 h | _ => none
theorem W49_ok : WOk Tryz.prog 49 W49 := by
  intro c l h r e
  unfold W49 at e
  split at e
  · exact ⟨P49, by rw [S49_eq]; exact e⟩
  · cases e
/- (*quietus/thread.Thread).look -/
def P50 : Pl := (.n (some [0]) .z .z)
def S50 (c : CV) (a0 : AV) (h : AH) : R :=
joinC (α := AV × Unit → AH → List Nat → R) (fun s0 h1 d2 =>
pNil s0.1 fun v4 =>
pFieldA v4 22 fun v5 =>
pLoad1 h1 v5 fun v6 =>
pLenS v6 fun v7 =>
pNil s0.1 fun v8 =>
pFieldA v8 1 fun v9 =>
pFieldA v9 0 fun v10 =>
pFieldA v10 3 fun v11 =>
pLoad1 h1 v11 fun v12 =>
pInt .lss v7 v12 fun v13 =>
pCond v13 (
pLeave d2 h1 fun h14 =>
some ((.tup []), h14)) (
pNil s0.1 fun v15 =>
pFieldA v15 21 fun v16 =>
pLoad1 h1 v16 fun v17 =>
pNil s0.1 fun v18 =>
pFieldA v18 22 fun v19 =>
pLoad1 h1 v19 fun v20 =>
pCall c (.fn 84 [] []) [v17, v20] h1 fun v21 h22 =>
pLenS v21 fun v23 =>
pInt .eql v23 (.int .i64 (.ofNat 0)) fun v24 =>
pCond v24 (
pCall c (.fn 22 [] []) [s0.1] h22 fun _ h26 =>
pLeave d2 h26 fun h27 =>
some ((.tup []), h27)) (
pBuild [(.bool false), .nils, (.int .i64 (.ofNat 0)), (.int .i64 (.ofNat 0))] [(0, 1, (.bool true)), (1, 1, v21)] fun v28 =>
pNil s0.1 fun v29 =>
pFieldA v29 12 fun v30 =>
pStore h22 v30 v28 4 fun h31 =>
pCall c (.fn 37 [] []) [s0.1] h31 fun _ h33 =>
pLeave d2 h33 fun h34 =>
some ((.tup []), h34)))) fun j3 =>
pNil a0 fun v35 =>
pFieldA v35 22 fun v36 =>
pLoad1 h v36 fun v37 =>
pLenS v37 fun v38 =>
pNil a0 fun v39 =>
pFieldA v39 0 fun v40 =>
pLoad1 h v40 fun v41 =>
pInt .eql v38 v41 fun v42 =>
pCond v42 (
pNil a0 fun v43 =>
pFieldA v43 22 fun v44 =>
pLoad1 h v44 fun v45 =>
pBuildS h 22 [(.int .u64 (.ofNat 0))] 1 [(0, 1, (.int .u64 (.ofNat 0)))] fun v46 h47 =>
pAppend h47 22 1 v45 v46 fun v48 h49 =>
pNil a0 fun v50 =>
pFieldA v50 22 fun v51 =>
pStore h49 v51 v48 1 fun h52 =>
j3 (a0, ()) h52 []) (
j3 (a0, ()) h [])
theorem S50_eq (c : CV) (a0 : AV) (h : AH) : enterK Tryz.prog NN P50 c 50 [a0] h = S50 c a0 h := by kernel_rfl
def W50 (c : CV) (l : List AV) (h : AH) : R := match l with | [a0] => S50 c a0 h | _ => none
theorem W50_ok : WOk Tryz.prog 50 W50 := by
  intro c l h r e
  unfold W50 at e
  split at e
  · exact ⟨P50, by rw [S50_eq]; exact e⟩
  · cases e
/- (*quietus/heap.Heap).Load -/
def P51 : Pl := .z
def S51 (c : CV) (a0 a1 : AV) (h : AH) : R :=
pCall c (.fn 85 [] []) [a0, a1] h fun v0 h1 =>
pUn .not v0 fun v2 =>
pCond v2 (
some ((.tup [(.int .u64 (.ofNat 0)), (.int .i64 (.ofNat 2))]), h1)) (
pNil a0 fun v3 =>
pFieldA v3 0 fun v4 =>
pLoad1 h1 v4 fun v5 =>
pIdxS v5 a1 1 fun v6 =>
pLoad1 h1 v6 fun v7 =>
some ((.tup [v7, (.int .i64 (.ofNat 0))]), h1))
theorem S51_eq (c : CV) (a0 a1 : AV) (h : AH) : enterK Tryz.prog NN P51 c 51 [a0, a1] h = S51 c a0 a1 h := by kernel_rfl
def W51 (c : CV) (l : List AV) (h : AH) : R := match l with | [a0, a1] => S51 c a0 a1 h | _ => none
theorem W51_ok : WOk Tryz.prog 51 W51 := by
  intro c l h r e
  unfold W51 at e
  split at e
  · exact ⟨P51, by rw [S51_eq]; exact e⟩
  · cases e
/- (*quietus/heap.Heap).Store -/
def P52 : Pl := .z
def S52 (c : CV) (a0 a1 a2 : AV) (h : AH) : R :=
pCall c (.fn 85 [] []) [a0, a1] h fun v0 h1 =>
pUn .not v0 fun v2 =>
pCond v2 (
some ((.int .i64 (.ofNat 2)), h1)) (
pNil a0 fun v3 =>
pFieldA v3 0 fun v4 =>
pLoad1 h1 v4 fun v5 =>
pIdxS v5 a1 1 fun v6 =>
pStore h1 v6 a2 1 fun h7 =>
some ((.int .i64 (.ofNat 0)), h7))
theorem S52_eq (c : CV) (a0 a1 a2 : AV) (h : AH) : enterK Tryz.prog NN P52 c 52 [a0, a1, a2] h = S52 c a0 a1 a2 h := by kernel_rfl
def W52 (c : CV) (l : List AV) (h : AH) : R := match l with | [a0, a1, a2] => S52 c a0 a1 a2 h | _ => none
theorem W52_ok : WOk Tryz.prog 52 W52 := by
  intro c l h r e
  unfold W52 at e
  split at e
  · exact ⟨P52, by rw [S52_eq]; exact e⟩
  · cases e
/- (*quietus/stripe.Table).Load -/
def P53 : Pl := .z
def S53 (c : CV) (a0 a1 : AV) (h : AH) : R :=
pBox h 38 (.agg [(.int .u64 (.ofNat 0)), (.bool false), (.int .i64 (.ofNat 0))]) fun v0 h1 =>
pCall c (.fn 86 [] []) [a0, a1] h1 fun v2 h3 =>
pUn .not v2 fun v4 =>
pCond v4 (
pBuild [(.int .u64 (.ofNat 0)), (.bool false), (.int .i64 (.ofNat 0))] [] fun v5 =>
pStore h3 v0 v5 3 fun h6 =>
pLoadN h6 v0 3 fun v7 =>
some ((.tup [v7, (.int .i64 (.ofNat 2))]), h6)) (
pNil a0 fun v8 =>
pFieldA v8 0 fun v9 =>
pLoad1 h3 v9 fun v10 =>
pIdxS v10 a1 3 fun v11 =>
pLoadN h3 v11 3 fun v12 =>
pStore h3 v0 v12 3 fun h13 =>
pLoadN h13 v0 3 fun v14 =>
some ((.tup [v14, (.int .i64 (.ofNat 0))]), h13))
theorem S53_eq (c : CV) (a0 a1 : AV) (h : AH) : enterK Tryz.prog NN P53 c 53 [a0, a1] h = S53 c a0 a1 h := by kernel_rfl
def W53 (c : CV) (l : List AV) (h : AH) : R := match l with | [a0, a1] => S53 c a0 a1 h | _ => none
theorem W53_ok : WOk Tryz.prog 53 W53 := by
  intro c l h r e
  unfold W53 at e
  split at e
  · exact ⟨P53, by rw [S53_eq]; exact e⟩
  · cases e
/- (*quietus/stripe.Table).Cas -/
def P54 : Pl := .z
def S54 (c : CV) (a0 a1 a2 a3 : AV) (h : AH) : R :=
pBox h 38 a2 fun v0 h1 =>
pBox h1 38 a3 fun v2 h3 =>
pLoadN h3 v2 3 fun v4 =>
pCall c (.fn 87 [] []) [a0, a1, v4] h3 fun v5 h6 =>
pInt .neq v5 (.int .i64 (.ofNat 0)) fun v7 =>
pCond v7 (
some ((.tup [(.bool false), v5]), h6)) (
pNil a0 fun v8 =>
pFieldA v8 0 fun v9 =>
pLoad1 h6 v9 fun v10 =>
pIdxS v10 a1 3 fun v11 =>
pLoadN h6 v11 3 fun v12 =>
pLoadN h6 v0 3 fun v13 =>
pEqS [(.int, 0), (.bool, 1), (.int, 2)] true v12 v13 fun v14 =>
pCond v14 (
some ((.tup [(.bool false), (.int .i64 (.ofNat 0))]), h6)) (
pNil a0 fun v15 =>
pFieldA v15 0 fun v16 =>
pLoad1 h6 v16 fun v17 =>
pLoadN h6 v2 3 fun v18 =>
pIdxS v17 a1 3 fun v19 =>
pStore h6 v19 v18 3 fun h20 =>
some ((.tup [(.bool true), (.int .i64 (.ofNat 0))]), h20)))
theorem S54_eq (c : CV) (a0 a1 a2 a3 : AV) (h : AH) : enterK Tryz.prog NN P54 c 54 [a0, a1, a2, a3] h = S54 c a0 a1 a2 a3 h := by kernel_rfl
def W54 (c : CV) (l : List AV) (h : AH) : R := match l with | [a0, a1, a2, a3] => S54 c a0 a1 a2 a3 h | _ => none
theorem W54_ok : WOk Tryz.prog 54 W54 := by
  intro c l h r e
  unfold W54 at e
  split at e
  · exact ⟨P54, by rw [S54_eq]; exact e⟩
  · cases e
/- (*quietus/stripe.Table).Store -/
def P55 : Pl := (.n none .z (.n none .z (.n (some [7]) .z .z)))
def S55 (c : CV) (a0 a1 a2 : AV) (h : AH) : R :=
pBox h 38 a2 fun v0 h1 =>
pLoadN h1 v0 3 fun v2 =>
pCall c (.fn 87 [] []) [a0, a1, v2] h1 fun v3 h4 =>
joinC (α := AV × Unit → AH → List Nat → R) (fun s5 h6 d7 =>
pLeave d7 h6 fun h9 =>
some (s5.1, h9)) fun j8 =>
pInt .eql v3 (.int .i64 (.ofNat 0)) fun v10 =>
pCond v10 (
pNil a0 fun v11 =>
pFieldA v11 0 fun v12 =>
pLoad1 h4 v12 fun v13 =>
pLoadN h4 v0 3 fun v14 =>
pIdxS v13 a1 3 fun v15 =>
pStore h4 v15 v14 3 fun h16 =>
j8 (v3, ()) h16 []) (
j8 (v3, ()) h4 [])
theorem S55_eq (c : CV) (a0 a1 a2 : AV) (h : AH) : enterK Tryz.prog NN P55 c 55 [a0, a1, a2] h = S55 c a0 a1 a2 h := by kernel_rfl
def W55 (c : CV) (l : List AV) (h : AH) : R := match l with | [a0, a1, a2] => S55 c a0 a1 a2 h | _ => none
theorem W55_ok : WOk Tryz.prog 55 W55 := by
  intro c l h r e
  unfold W55 at e
  split at e
  · exact ⟨P55, by rw [S55_eq]; exact e⟩
  · cases e
/- (*quietus/clock.Clock).Load -/
def P56 : Pl := .z
def S56 (_ : CV) (a0 : AV) (h : AH) : R :=
pNil a0 fun v0 =>
pFieldA v0 0 fun v1 =>
pLoad1 h v1 fun v2 =>
some (v2, h)
theorem S56_eq (c : CV) (a0 : AV) (h : AH) : enterK Tryz.prog NN P56 c 56 [a0] h = S56 c a0 h := by kernel_rfl
def W56 (c : CV) (l : List AV) (h : AH) : R := match l with | [a0] => S56 c a0 h | _ => none
theorem W56_ok : WOk Tryz.prog 56 W56 := by
  intro c l h r e
  unfold W56 at e
  split at e
  · exact ⟨P56, by rw [S56_eq]; exact e⟩
  · cases e
/- (*quietus/clock.Clock).Cas -/
def P57 : Pl := .z
def S57 (_ : CV) (a0 a1 a2 : AV) (h : AH) : R :=
pInt .leq a2 a1 fun v0 =>
pCond v0 (
some ((.tup [(.bool false), (.int .i64 (.ofNat 1))]), h)) (
pInt .geq a2 (.int .u64 (.ofNat 4611686018427387904)) fun v1 =>
pCond v1 (
some ((.tup [(.bool false), (.int .i64 (.ofNat 7))]), h)) (
pNil a0 fun v2 =>
pFieldA v2 0 fun v3 =>
pLoad1 h v3 fun v4 =>
pInt .neq v4 a1 fun v5 =>
pCond v5 (
some ((.tup [(.bool false), (.int .i64 (.ofNat 0))]), h)) (
pNil a0 fun v6 =>
pFieldA v6 0 fun v7 =>
pStore h v7 a2 1 fun h8 =>
some ((.tup [(.bool true), (.int .i64 (.ofNat 0))]), h8))))
theorem S57_eq (c : CV) (a0 a1 a2 : AV) (h : AH) : enterK Tryz.prog NN P57 c 57 [a0, a1, a2] h = S57 c a0 a1 a2 h := by kernel_rfl
def W57 (c : CV) (l : List AV) (h : AH) : R := match l with | [a0, a1, a2] => S57 c a0 a1 a2 h | _ => none
theorem W57_ok : WOk Tryz.prog 57 W57 := by
  intro c l h r e
  unfold W57 at e
  split at e
  · exact ⟨P57, by rw [S57_eq]; exact e⟩
  · cases e
/- (*quietus/epoch.Slots).Load -/
def P58 : Pl := .z
def S58 (c : CV) (a0 a1 : AV) (h : AH) : R :=
pCall c (.fn 88 [] []) [a0, a1] h fun v0 h1 =>
pUn .not v0 fun v2 =>
pCond v2 (
some ((.tup [(.int .u64 (.ofNat 0)), (.int .i64 (.ofNat 2))]), h1)) (
pNil a0 fun v3 =>
pFieldA v3 0 fun v4 =>
pLoad1 h1 v4 fun v5 =>
pIdxS v5 a1 1 fun v6 =>
pLoad1 h1 v6 fun v7 =>
some ((.tup [v7, (.int .i64 (.ofNat 0))]), h1))
theorem S58_eq (c : CV) (a0 a1 : AV) (h : AH) : enterK Tryz.prog NN P58 c 58 [a0, a1] h = S58 c a0 a1 h := by kernel_rfl
def W58 (c : CV) (l : List AV) (h : AH) : R := match l with | [a0, a1] => S58 c a0 a1 h | _ => none
theorem W58_ok : WOk Tryz.prog 58 W58 := by
  intro c l h r e
  unfold W58 at e
  split at e
  · exact ⟨P58, by rw [S58_eq]; exact e⟩
  · cases e
/- (*quietus/epoch.Slots).Store -/
def P59 : Pl := .z
def S59 (c : CV) (a0 a1 a2 : AV) (h : AH) : R :=
pCall c (.fn 88 [] []) [a0, a1] h fun v0 h1 =>
pUn .not v0 fun v2 =>
pCond v2 (
some ((.int .i64 (.ofNat 2)), h1)) (
pNil a0 fun v3 =>
pFieldA v3 0 fun v4 =>
pLoad1 h1 v4 fun v5 =>
pIdxS v5 a1 1 fun v6 =>
pStore h1 v6 a2 1 fun h7 =>
some ((.int .i64 (.ofNat 0)), h7))
theorem S59_eq (c : CV) (a0 a1 a2 : AV) (h : AH) : enterK Tryz.prog NN P59 c 59 [a0, a1, a2] h = S59 c a0 a1 a2 h := by kernel_rfl
def W59 (c : CV) (l : List AV) (h : AH) : R := match l with | [a0, a1, a2] => S59 c a0 a1 a2 h | _ => none
theorem W59_ok : WOk Tryz.prog 59 W59 := by
  intro c l h r e
  unfold W59 at e
  split at e
  · exact ⟨P59, by rw [S59_eq]; exact e⟩
  · cases e
/- slices.Clone[[]quietus/api.Cell,quietus/api.Cell] -/
def P60 : Pl := .z
def S60 (_ : CV) (a0 : AV) (h : AH) : R :=
pEq .slc false a0 .nils fun v0 =>
pCond v0 (
some (.nils, h)) (
pBuildS h 133 [(.int .i64 (.ofNat 0)), (.int .u64 (.ofNat 0))] 0 [] fun v1 h2 =>
pAppend h2 133 2 v1 a0 fun v3 h4 =>
some (v3, h4))
theorem S60_eq (c : CV) (a0 : AV) (h : AH) : enterK Tryz.prog NN P60 c 60 [a0] h = S60 c a0 h := by kernel_rfl
def W60 (c : CV) (l : List AV) (h : AH) : R := match l with | [a0] => S60 c a0 h | _ => none
theorem W60_ok : WOk Tryz.prog 60 W60 := by
  intro c l h r e
  unfold W60 at e
  split at e
  · exact ⟨P60, by rw [S60_eq]; exact e⟩
  · cases e
/- slices.Clone[[]int,int] -/
def P61 : Pl := .z
def S61 (_ : CV) (a0 : AV) (h : AH) : R :=
pEq .slc false a0 .nils fun v0 =>
pCond v0 (
some (.nils, h)) (
pBuildS h 3 [(.int .i64 (.ofNat 0))] 0 [] fun v1 h2 =>
pAppend h2 3 1 v1 a0 fun v3 h4 =>
some (v3, h4))
theorem S61_eq (c : CV) (a0 : AV) (h : AH) : enterK Tryz.prog NN P61 c 61 [a0] h = S61 c a0 h := by kernel_rfl
def W61 (c : CV) (l : List AV) (h : AH) : R := match l with | [a0] => S61 c a0 h | _ => none
theorem W61_ok : WOk Tryz.prog 61 W61 := by
  intro c l h r e
  unfold W61 at e
  split at e
  · exact ⟨P61, by rw [S61_eq]; exact e⟩
  · cases e
/- (*quietus/attempt.Attempt).Reads -/
def P62 : Pl := .z
def S62 (c : CV) (a0 : AV) (h : AH) : R :=
pNil a0 fun v0 =>
pFieldA v0 12 fun v1 =>
pLoad1 h v1 fun v2 =>
pCall c (.fn 89 [] []) [v2] h fun v3 h4 =>
some (v3, h4)
theorem S62_eq (c : CV) (a0 : AV) (h : AH) : enterK Tryz.prog NN P62 c 62 [a0] h = S62 c a0 h := by kernel_rfl
def W62 (c : CV) (l : List AV) (h : AH) : R := match l with | [a0] => S62 c a0 h | _ => none
theorem W62_ok : WOk Tryz.prog 62 W62 := by
  intro c l h r e
  unfold W62 at e
  split at e
  · exact ⟨P62, by rw [S62_eq]; exact e⟩
  · cases e
/- (*quietus/attempt.Attempt).Cells -/
def P63 : Pl := .z
def S63 (c : CV) (a0 : AV) (h : AH) : R :=
pCall c (.fn 79 [] []) [a0] h fun v0 h1 =>
pUn .not v0 fun v2 =>
pCond v2 (
some (.nils, h1)) (
pNil a0 fun v3 =>
pFieldA v3 12 fun v4 =>
pLoad1 h1 v4 fun v5 =>
pCall c (.fn 73 [] []) [v5] h1 fun v6 h7 =>
some (v6, h7))
theorem S63_eq (c : CV) (a0 : AV) (h : AH) : enterK Tryz.prog NN P63 c 63 [a0] h = S63 c a0 h := by kernel_rfl
def W63 (c : CV) (l : List AV) (h : AH) : R := match l with | [a0] => S63 c a0 h | _ => none
theorem W63_ok : WOk Tryz.prog 63 W63 := by
  intro c l h r e
  unfold W63 at e
  split at e
  · exact ⟨P63, by rw [S63_eq]; exact e⟩
  · cases e
/- slices.Clone[[]quietus/api.Rest,quietus/api.Rest] -/
def P64 : Pl := .z
def S64 (_ : CV) (a0 : AV) (h : AH) : R :=
pEq .slc false a0 .nils fun v0 =>
pCond v0 (
some (.nils, h)) (
pBuildS h 138 [(.int .i64 (.ofNat 0)), (.int .u64 (.ofNat 0))] 0 [] fun v1 h2 =>
pAppend h2 138 2 v1 a0 fun v3 h4 =>
some (v3, h4))
theorem S64_eq (c : CV) (a0 : AV) (h : AH) : enterK Tryz.prog NN P64 c 64 [a0] h = S64 c a0 h := by kernel_rfl
def W64 (c : CV) (l : List AV) (h : AH) : R := match l with | [a0] => S64 c a0 h | _ => none
theorem W64_ok : WOk Tryz.prog 64 W64 := by
  intro c l h r e
  unfold W64 at e
  split at e
  · exact ⟨P64, by rw [S64_eq]; exact e⟩
  · cases e
/- (*quietus/commit.Commit).Writing -/
def P65 : Pl := (.n none .z (.n none (.r [[10, 7]]) .z))
def S65 (c : CV) (a0 : AV) (h : AH) : R :=
pNil a0 fun v0 =>
pFieldA v0 17 fun v1 =>
pLoad1 h v1 fun v2 =>
joinC (α := AV × AV × Unit → AH → R) (fun s3 h4 =>
pPick s3.2.1 s3.1 (.bool false) fun v6 =>
some (v6, h4)) fun j5 =>
pWant v2 true (
pCall c (.fn 66 [] []) [a0] h fun v7 h8 =>
pInt .eql v7 (.int .i64 (.ofNat 0)) fun v9 =>
j5 (v9, v2, ()) h8) (
j5 (.undef, v2, ()) h)
theorem S65_eq (c : CV) (a0 : AV) (h : AH) : enterK Tryz.prog NN P65 c 65 [a0] h = S65 c a0 h := by kernel_rfl
def W65 (c : CV) (l : List AV) (h : AH) : R := match l with | [a0] => S65 c a0 h | _ => none
theorem W65_ok : WOk Tryz.prog 65 W65 := by
  intro c l h r e
  unfold W65 at e
  split at e
  · exact ⟨P65, by rw [S65_eq]; exact e⟩
  · cases e
/- (*quietus/commit.Commit).End -/
def P66 : Pl := .z
def S66 (c : CV) (a0 : AV) (h : AH) : R :=
pNil a0 fun v0 =>
pFieldA v0 0 fun v1 =>
pCall c (.fn 90 [] []) [v1] h fun v2 h3 =>
some (v2, h3)
theorem S66_eq (c : CV) (a0 : AV) (h : AH) : enterK Tryz.prog NN P66 c 66 [a0] h = S66 c a0 h := by kernel_rfl
def W66 (c : CV) (l : List AV) (h : AH) : R := match l with | [a0] => S66 c a0 h | _ => none
theorem W66_ok : WOk Tryz.prog 66 W66 := by
  intro c l h r e
  unfold W66 at e
  split at e
  · exact ⟨P66, by rw [S66_eq]; exact e⟩
  · cases e
/- quietus/attempt.Sweep -/
def P67 : Pl := .z
def S67 (c : CV) (a0 a1 a2 : AV) (h : AH) : R :=
pBox h 26 a1 fun v0 h1 =>
pLoadN h1 v0 8 fun v2 =>
pCall c (.fn 91 [] []) [a0, v2] h1 fun v3 h4 =>
pCall c (.fn 61 [] []) [a2] h4 fun v5 h6 =>
pNil v3 fun v7 =>
pFieldA v7 10 fun v8 =>
pStore h6 v8 v5 1 fun h9 =>
some (v3, h9)
theorem S67_eq (c : CV) (a0 a1 a2 : AV) (h : AH) : enterK Tryz.prog NN P67 c 67 [a0, a1, a2] h = S67 c a0 a1 a2 h := by kernel_rfl
def W67 (c : CV) (l : List AV) (h : AH) : R := match l with | [a0, a1, a2] => S67 c a0 a1 a2 h | _ => none
theorem W67_ok : WOk Tryz.prog 67 W67 := by
  intro c l h r e
  unfold W67 at e
  split at e
  · exact ⟨P67, by rw [S67_eq]; exact e⟩
  · cases e
/- quietus/attempt.New -/
def P68 : Pl := .z
def S68 (c : CV) (a0 a1 a2 : AV) (h : AH) : R :=
pBox h 26 a1 fun v0 h1 =>
pBox h1 33 a2 fun v2 h3 =>
pLoadN h3 v0 8 fun v4 =>
pCall c (.fn 91 [] []) [a0, v4] h3 fun v5 h6 =>
pLoadN h6 v2 1 fun v7 =>
pNil v5 fun v8 =>
pFieldA v8 12 fun v9 =>
pLoad1 h6 v9 fun v10 =>
pNil v5 fun v11 =>
pFieldA v11 1 fun v12 =>
pFieldA v12 7 fun v13 =>
pLoad1 h6 v13 fun v14 =>
pCall c (.fn 92 [] []) [v7, v10, v14] h6 fun v15 h16 =>
pNil v5 fun v17 =>
pFieldA v17 9 fun v18 =>
pStore h16 v18 v15 1 fun h19 =>
some (v5, h19)
theorem S68_eq (c : CV) (a0 a1 a2 : AV) (h : AH) : enterK Tryz.prog NN P68 c 68 [a0, a1, a2] h = S68 c a0 a1 a2 h := by kernel_rfl
def W68 (c : CV) (l : List AV) (h : AH) : R := match l with | [a0, a1, a2] => S68 c a0 a1 a2 h | _ => none
theorem W68_ok : WOk Tryz.prog 68 W68 := by
  intro c l h r e
  unfold W68 at e
  split at e
  · exact ⟨P68, by rw [S68_eq]; exact e⟩
  · cases e
/- (*quietus/attempt.Attempt).do -/
def P69 : Pl := (.n none .z (.n none (.n none .z (.n none (.n none (.r [[3, 2]]) .z) .z)) (.n none (.n none (.n (some [0]) .z .z) .z) .z)))
def S69 (c : CV) (a0 : AV) (h : AH) : R :=
pNil a0 fun v0 =>
pFieldA v0 9 fun v1 =>
pLoad1 h v1 fun v2 =>
pEq .ptr true v2 .nilp fun v3 =>
pCond v3 (
joinC (α := AV × AV × Unit → AH → R) (fun s4 h5 =>
some ((.tup [s4.2.1, s4.1]), h5)) fun j6 =>
pNil a0 fun v7 =>
pFieldA v7 9 fun v8 =>
pLoad1 h v8 fun v9 =>
pCall c (.fn 93 [] []) [v9] h fun v10 h11 =>
pNil a0 fun v12 =>
pFieldA v12 9 fun v13 =>
pLoad1 h11 v13 fun v14 =>
pCall c (.fn 94 [] []) [v14] h11 fun v15 h16 =>
pChk v13 none v14 h h11 h.nx <|
j6 (v15, v10, ()) h16) (
loopC (σ := AV × Unit) NN (fun i20 s17 h18 d19 =>
pNil s17.1 fun v21 =>
pFieldA v21 11 fun v22 =>
pLoad1 h18 v22 fun v23 =>
pNil s17.1 fun v24 =>
pFieldA v24 10 fun v25 =>
pLoad1 h18 v25 fun v26 =>
pLenS v26 fun v27 =>
pInt .lss v23 v27 fun v28 =>
pCond v28 (
pNil s17.1 fun v29 =>
pFieldA v29 12 fun v30 =>
pLoad1 h18 v30 fun v31 =>
pNil s17.1 fun v32 =>
pFieldA v32 10 fun v33 =>
pLoad1 h18 v33 fun v34 =>
pNil s17.1 fun v35 =>
pFieldA v35 11 fun v36 =>
pLoad1 h18 v36 fun v37 =>
pIdxS v34 v37 1 fun v38 =>
pLoad1 h18 v38 fun v39 =>
pCall c (.fn 95 [] []) [v31, v39] h18 fun v40 h41 =>
pInt .eql v40 (.int .i64 (.ofNat 0)) fun v42 =>
pCond v42 (
pNil s17.1 fun v43 =>
pFieldA v43 11 fun v44 =>
pLoad1 h41 v44 fun v45 =>
pInt .add v45 (.int .i64 (.ofNat 1)) fun v46 =>
pNil s17.1 fun v47 =>
pFieldA v47 11 fun v48 =>
pStore h41 v48 v46 1 fun h49 =>
i20 (s17.1, ()) h49 d19) (
pInt .eql v40 (.int .i64 (.ofNat 11)) fun v50 =>
pCond v50 (
pLeave d19 h41 fun h51 =>
some ((.tup [(.int .i64 (.ofNat 1)), (.int .i64 (.ofNat 0))]), h51)) (
pLeave d19 h41 fun h52 =>
some ((.tup [(.int .i64 (.ofNat 4)), v40]), h52)))) (
pLeave d19 h18 fun h53 =>
some ((.tup [(.int .i64 (.ofNat 2)), (.int .i64 (.ofNat 0))]), h53))) (a0, ()) h [])
theorem S69_eq (c : CV) (a0 : AV) (h : AH) : enterK Tryz.prog NN P69 c 69 [a0] h = S69 c a0 h := by kernel_rfl
def W69 (c : CV) (l : List AV) (h : AH) : R := match l with | [a0] => S69 c a0 h | _ => none
theorem W69_ok : WOk Tryz.prog 69 W69 := by
  intro c l h r e
  unfold W69 at e
  split at e
  · exact ⟨P69, by rw [S69_eq]; exact e⟩
  · cases e
/- (*quietus/attempt.Attempt).ask -/
def P70 : Pl := (.n none (.r [[0]]) .z)
def S70 (c : CV) (a0 a1 : AV) (h : AH) : R :=
joinC (α := AV × Unit → AH → R) (fun s0 h1 =>
pNil s0.1 fun v3 =>
pFieldA v3 16 fun v4 =>
pLoad1 h1 v4 fun v5 =>
pCall c (.fn 76 [] []) [s0.1, (.int .i64 (.ofNat 3)), (.iface 109 v5)] h1 fun _ h7 =>
some ((.tup []), h7)) fun j2 =>
pNil a0 fun v8 =>
pFieldA v8 0 fun v9 =>
pLoad1 h v9 fun v10 =>
pNil a0 fun v11 =>
pFieldA v11 1 fun v12 =>
pFieldA v12 0 fun v13 =>
pFieldA v13 1 fun v14 =>
pLoad1 h v14 fun v15 =>
pNil a0 fun v16 =>
pFieldA v16 1 fun v17 =>
pFieldA v17 0 fun v18 =>
pFieldA v18 2 fun v19 =>
pLoad1 h v19 fun v20 =>
pCall c (.fn 97 [] []) [a1, v15, v20] h fun v21 h22 =>
pNil a0 fun v23 =>
pFieldA v23 1 fun v24 =>
pFieldA v24 5 fun v25 =>
pLoad1 h22 v25 fun v26 =>
pNil a0 fun v27 =>
pFieldA v27 21 fun v28 =>
pLoad1 h22 v28 fun v29 =>
pCall c (.fn 96 [] []) [v10, a1, v21, v26, v29] h22 fun v30 h31 =>
pNil a0 fun v32 =>
pFieldA v32 16 fun v33 =>
pStore h31 v33 v30 1 fun h34 =>
pChk v28 none v29 h h22 h.nx <|
pChk v25 none v26 h h22 h.nx <|
pChk v9 none v10 h h22 h.nx <|
j2 (a0, ()) h34
theorem S70_eq (c : CV) (a0 a1 : AV) (h : AH) : enterK Tryz.prog NN P70 c 70 [a0, a1] h = S70 c a0 a1 h := by kernel_rfl
def W70 (c : CV) (l : List AV) (h : AH) : R := match l with | [a0, a1] => S70 c a0 a1 h | _ => none
theorem W70_ok : WOk Tryz.prog 70 W70 := by
  intro c l h r e
  unfold W70 at e
  split at e
  · exact ⟨P70, by rw [S70_eq]; exact e⟩
  · cases e
/- (*quietus/view.View).Need -/
def P71 : Pl := .z
def S71 (_ : CV) (a0 : AV) (h : AH) : R :=
pNil a0 fun v0 =>
pFieldA v0 3 fun v1 =>
pLoad1 h v1 fun v2 =>
some (v2, h)
theorem S71_eq (c : CV) (a0 : AV) (h : AH) : enterK Tryz.prog NN P71 c 71 [a0] h = S71 c a0 h := by kernel_rfl
def W71 (c : CV) (l : List AV) (h : AH) : R := match l with | [a0] => S71 c a0 h | _ => none
theorem W71_ok : WOk Tryz.prog 71 W71 := by
  intro c l h r e
  unfold W71 at e
  split at e
  · exact ⟨P71, by rw [S71_eq]; exact e⟩
  · cases e
/- (*quietus/attempt.Attempt).later -/
def P72 : Pl := (.n none (.r [[1, 0]]) .z)
def S72 (c : CV) (a0 a1 : AV) (h : AH) : R :=
joinC (α := AV × AV × Unit → AH → R) (fun s0 h1 =>
pNil s0.2.1 fun v3 =>
pFieldA v3 17 fun v4 =>
pLoad1 h1 v4 fun v5 =>
pCall c (.fn 76 [] []) [s0.2.1, s0.1, (.iface 110 v5)] h1 fun _ h7 =>
some ((.tup []), h7)) fun j2 =>
pNil a0 fun v8 =>
pFieldA v8 0 fun v9 =>
pLoad1 h v9 fun v10 =>
pNil a0 fun v11 =>
pFieldA v11 1 fun v12 =>
pFieldA v12 5 fun v13 =>
pLoad1 h v13 fun v14 =>
pNil a0 fun v15 =>
pFieldA v15 13 fun v16 =>
pLoad1 h v16 fun v17 =>
pCall c (.fn 75 [] []) [v17] h fun v18 h19 =>
pCall c (.fn 98 [] []) [v10, v14, v18] h19 fun v20 h21 =>
pNil a0 fun v22 =>
pFieldA v22 17 fun v23 =>
pStore h21 v23 v20 1 fun h24 =>
pChk v13 none v14 h h19 h.nx <|
pChk v9 none v10 h h19 h.nx <|
j2 (a1, a0, ()) h24
theorem S72_eq (c : CV) (a0 a1 : AV) (h : AH) : enterK Tryz.prog NN P72 c 72 [a0, a1] h = S72 c a0 a1 h := by kernel_rfl
def W72 (c : CV) (l : List AV) (h : AH) : R := match l with | [a0, a1] => S72 c a0 a1 h | _ => none
theorem W72_ok : WOk Tryz.prog 72 W72 := by
  intro c l h r e
  unfold W72 at e
  split at e
  · exact ⟨P72, by rw [S72_eq]; exact e⟩
  · cases e
/- (*quietus/view.View).Cells -/
def P73 : Pl := .z
def S73 (c : CV) (a0 : AV) (h : AH) : R :=
pNil a0 fun v0 =>
pFieldA v0 2 fun v1 =>
pLoad1 h v1 fun v2 =>
pCall c (.fn 99 [] []) [v2] h fun v3 h4 =>
some (v3, h4)
theorem S73_eq (c : CV) (a0 : AV) (h : AH) : enterK Tryz.prog NN P73 c 73 [a0] h = S73 c a0 h := by kernel_rfl
def W73 (c : CV) (l : List AV) (h : AH) : R := match l with | [a0] => S73 c a0 h | _ => none
theorem W73_ok : WOk Tryz.prog 73 W73 := by
  intro c l h r e
  unfold W73 at e
  split at e
  · exact ⟨P73, by rw [S73_eq]; exact e⟩
  · cases e
/- quietus/commit.New -/
def P74 : Pl := .z
def S74 (c : CV) (a0 a1 a2 a3 a4 a5 a6 : AV) (h : AH) : R :=
pCall c (.fn 100 [] []) [a0, a1] h fun v0 h1 =>
pCall c (.fn 101 [] []) [a3] h1 fun v2 h3 =>
pCall c (.fn 60 [] []) [a4] h3 fun v4 h5 =>
pCall c (.fn 102 [] []) [a4, a5, a6] h5 fun v6 h7 =>
pBuild [(.int .i64 (.ofNat 0)), (.int .i64 (.ofNat 0)), (.int .i64 (.ofNat 0)), (.int .i64 (.ofNat 0)), (.int .i64 (.ofNat 0)), (.int .i64 (.ofNat 0)), (.int .u64 (.ofNat 0)), .nils, .nils, .nils, .nils, (.int .i64 (.ofNat 0)), (.int .i64 (.ofNat 0)), (.int .u64 (.ofNat 0)), (.bool false), (.int .i64 (.ofNat 0)), (.int .u64 (.ofNat 0)), (.bool false), (.int .i64 (.ofNat 0)), (.int .i64 (.ofNat 0)), (.int .i64 (.ofNat 0))] [(0, 5, v0), (5, 1, a0), (6, 1, a2), (7, 1, v2), (8, 1, v4), (9, 1, v6)] fun v8 =>
pBox h7 154 v8 fun v9 h10 =>
pCall c (.fn 103 [] []) [v9] h10 fun _ h12 =>
some (v9, h12)
theorem S74_eq (c : CV) (a0 a1 a2 a3 a4 a5 a6 : AV) (h : AH) : enterK Tryz.prog NN P74 c 74 [a0, a1, a2, a3, a4, a5, a6] h = S74 c a0 a1 a2 a3 a4 a5 a6 h := by kernel_rfl
def W74 (c : CV) (l : List AV) (h : AH) : R := match l with | [a0, a1, a2, a3, a4, a5, a6] => S74 c a0 a1 a2 a3 a4 a5 a6 h | _ => none
theorem W74_ok : WOk Tryz.prog 74 W74 := by
  intro c l h r e
  unfold W74 at e
  split at e
  · exact ⟨P74, by rw [S74_eq]; exact e⟩
  · cases e
/- (*quietus/reads.Reads).All -/
def P75 : Pl := .z
def S75 (c : CV) (a0 : AV) (h : AH) : R :=
pNil a0 fun v0 =>
pFieldA v0 1 fun v1 =>
pLoad1 h v1 fun v2 =>
pCall c (.fn 101 [] []) [v2] h fun v3 h4 =>
some (v3, h4)
theorem S75_eq (c : CV) (a0 : AV) (h : AH) : enterK Tryz.prog NN P75 c 75 [a0] h = S75 c a0 h := by kernel_rfl
def W75 (c : CV) (l : List AV) (h : AH) : R := match l with | [a0] => S75 c a0 h | _ => none
theorem W75_ok : WOk Tryz.prog 75 W75 := by
  intro c l h r e
  unfold W75 at e
  split at e
  · exact ⟨P75, by rw [S75_eq]; exact e⟩
  · cases e
/- (*quietus/attempt.Attempt).enter -/
def P76 : Pl := .z
def S76 (_ : CV) (a0 a1 a2 : AV) (h : AH) : R :=
pNil a0 fun v0 =>
pFieldA v0 14 fun v1 =>
pStore h v1 a1 1 fun h2 =>
pNil a0 fun v3 =>
pFieldA v3 15 fun v4 =>
pStore h2 v4 a2 1 fun h5 =>
some ((.tup []), h5)
theorem S76_eq (c : CV) (a0 a1 a2 : AV) (h : AH) : enterK Tryz.prog NN P76 c 76 [a0, a1, a2] h = S76 c a0 a1 a2 h := by kernel_rfl
def W76 (c : CV) (l : List AV) (h : AH) : R := match l with | [a0, a1, a2] => S76 c a0 a1 a2 h | _ => none
theorem W76_ok : WOk Tryz.prog 76 W76 := by
  intro c l h r e
  unfold W76 at e
  split at e
  · exact ⟨P76, by rw [S76_eq]; exact e⟩
  · cases e
/- (*quietus/attempt.Attempt).ended -/
def P77 : Pl := (.n none .z (.n (some []) (.n none .z (.n none .z (.n none .z (.n none .z (.n none .z (.n none .z (.n none .z (.n none (.r [[]]) .z)))))))) .z))
def S77 (c : CV) (a0 : AV) (h : AH) : R :=
pNil a0 fun v0 =>
pFieldA v0 14 fun v1 =>
pLoad1 h v1 fun v2 =>
joinC (α := Unit → AH → List Nat → R) (fun _ h4 d5 =>
pLeave d5 h4 fun h7 =>
some ((.tup []), h7)) fun j6 =>
pInt .eql v2 (.int .i64 (.ofNat 3)) fun v8 =>
pCond v8 (
pCall c (.fn 104 [] []) [a0] h fun _ h10 =>
j6 (()) h10 []) (
pInt .eql v2 (.int .i64 (.ofNat 4)) fun v11 =>
pCond v11 (
pNil a0 fun v12 =>
pFieldA v12 17 fun v13 =>
pLoad1 h v13 fun v14 =>
pCall c (.fn 105 [] []) [v14] h fun v15 h16 =>
pNil a0 fun v17 =>
pFieldA v17 21 fun v18 =>
pStore h16 v18 v15 1 fun h19 =>
pNil a0 fun v20 =>
pFieldA v20 12 fun v21 =>
pLoad1 h19 v21 fun v22 =>
pCall c (.fn 71 [] []) [v22] h19 fun v23 h24 =>
pCall c (.fn 70 [] []) [a0, v23] h24 fun _ h26 =>
j6 (()) h26 []) (
pInt .eql v2 (.int .i64 (.ofNat 5)) fun v27 =>
pCond v27 (
pNil a0 fun v28 =>
pFieldA v28 17 fun v29 =>
pLoad1 h v29 fun v30 =>
pCall c (.fn 105 [] []) [v30] h fun v31 h32 =>
pNil a0 fun v33 =>
pFieldA v33 21 fun v34 =>
pStore h32 v34 v31 1 fun h35 =>
pCall c (.fn 38 [] []) [a0, (.int .i64 (.ofNat 3)), (.int .i64 (.ofNat 0)), (.int .i64 (.negSucc 0))] h35 fun _ h37 =>
j6 (()) h37 []) (
pInt .eql v2 (.int .i64 (.ofNat 6)) fun v38 =>
pCond v38 (
joinC (α := Unit → AH → R) (fun _ h40 =>
j6 (()) h40 []) fun j41 =>
pNil a0 fun v42 =>
pFieldA v42 18 fun v43 =>
pLoad1 h v43 fun v44 =>
pCall c (.fn 66 [] []) [v44] h fun v45 h46 =>
pNil a0 fun v47 =>
pFieldA v47 18 fun v48 =>
pLoad1 h46 v48 fun v49 =>
pCall c (.fn 106 [] []) [v49] h46 fun v50 h51 =>
pCall c (.fn 38 [] []) [a0, v45, v50, (.int .i64 (.negSucc 0))] h51 fun _ h53 =>
pChk v48 none v49 h h46 h.nx <|
j41 (()) h53) (
j6 (()) h []))))
theorem S77_eq (c : CV) (a0 : AV) (h : AH) : enterK Tryz.prog NN P77 c 77 [a0] h = S77 c a0 h := by kernel_rfl
def W77 (c : CV) (l : List AV) (h : AH) : R := match l with | [a0] => S77 c a0 h | _ => none
theorem W77_ok : WOk Tryz.prog 77 W77 := by
  intro c l h r e
  unfold W77 at e
  split at e
  · exact ⟨P77, by rw [S77_eq]; exact e⟩
  · cases e
/- (*quietus/commit.Commit).Stamp -/
def P78 : Pl := .z
def S78 (_ : CV) (a0 : AV) (h : AH) : R :=
pNil a0 fun v0 =>
pFieldA v0 17 fun v1 =>
pLoad1 h v1 fun v2 =>
pUn .not v2 fun v3 =>
pCond v3 (
some ((.int .u64 (.ofNat 0)), h)) (
pNil a0 fun v4 =>
pFieldA v4 16 fun v5 =>
pLoad1 h v5 fun v6 =>
pInt .add v6 (.int .u64 (.ofNat 1)) fun v7 =>
some (v7, h))
theorem S78_eq (c : CV) (a0 : AV) (h : AH) : enterK Tryz.prog NN P78 c 78 [a0] h = S78 c a0 h := by kernel_rfl
def W78 (c : CV) (l : List AV) (h : AH) : R := match l with | [a0] => S78 c a0 h | _ => none
theorem W78_ok : WOk Tryz.prog 78 W78 := by
  intro c l h r e
  unfold W78 at e
  split at e
  · exact ⟨P78, by rw [S78_eq]; exact e⟩
  · cases e
/- (*quietus/attempt.Attempt).committed -/
def P79 : Pl := (.n none .z (.n none (.r [[8, 6]]) .z))
def S79 (c : CV) (a0 : AV) (h : AH) : R :=
pCall c (.fn 26 [] []) [a0] h fun v0 h1 =>
pInt .eql v0 (.int .i64 (.ofNat 2)) fun v2 =>
joinC (α := AV × AV × Unit → AH → R) (fun s3 h4 =>
pPick s3.2.1 (.bool true) s3.1 fun v6 =>
some (v6, h4)) fun j5 =>
pWant v2 false (
pCall c (.fn 35 [] []) [a0] h1 fun v7 h8 =>
j5 (v7, v2, ()) h8) (
j5 (.undef, v2, ()) h1)
theorem S79_eq (c : CV) (a0 : AV) (h : AH) : enterK Tryz.prog NN P79 c 79 [a0] h = S79 c a0 h := by kernel_rfl
def W79 (c : CV) (l : List AV) (h : AH) : R := match l with | [a0] => S79 c a0 h | _ => none
theorem W79_ok : WOk Tryz.prog 79 W79 := by
  intro c l h r e
  unfold W79 at e
  split at e
  · exact ⟨P79, by rw [S79_eq]; exact e⟩
  · cases e
/- (*quietus/interp.Interp).Slate -/
def P80 : Pl := .z
def S80 (c : CV) (a0 : AV) (h : AH) : R :=
pNil a0 fun v0 =>
pFieldA v0 14 fun v1 =>
pLoad1 h v1 fun v2 =>
pCall c (.fn 107 [] []) [v2] h fun v3 h4 =>
some (v3, h4)
theorem S80_eq (c : CV) (a0 : AV) (h : AH) : enterK Tryz.prog NN P80 c 80 [a0] h = S80 c a0 h := by kernel_rfl
def W80 (c : CV) (l : List AV) (h : AH) : R := match l with | [a0] => S80 c a0 h | _ => none
theorem W80_ok : WOk Tryz.prog 80 W80 := by
  intro c l h r e
  unfold W80 at e
  split at e
  · exact ⟨P80, by rw [S80_eq]; exact e⟩
  · cases e
/- (*quietus/slate.Slate).Text -/
def P81 : Pl := (.n none .z (.n none .z (.n none (.n none .z (.n none (.n (some [17, 16, 15, 3]) .z .z) .z)) .z)))
def S81 (c : CV) (a0 : AV) (h : AH) : R :=
pNil a0 fun v0 =>
pFieldA v0 0 fun v1 =>
pLoad1 h v1 fun v2 =>
pLenS v2 fun v3 =>
pMake h 9 [(.str [])] v3 v3 fun v4 h5 =>
pNil a0 fun v6 =>
pFieldA v6 0 fun v7 =>
pLoad1 h5 v7 fun v8 =>
pLenS v8 fun v9 =>
loopC (σ := AV × AV × AV × AV × Unit) NN (fun i13 s10 h11 d12 =>
pInt .lss s10.1 s10.2.1 fun v14 =>
pCond v14 (
pIdxS s10.2.2.1 s10.1 1 fun v15 =>
pLoad1 h11 v15 fun v16 =>
pCall c (.fn 108 [] []) [v16] h11 fun v17 h18 =>
pIdxS s10.2.2.2.1 s10.1 1 fun v19 =>
pStore h18 v19 v17 1 fun h20 =>
pInt .add s10.1 (.int .i64 (.ofNat 1)) fun v21 =>
i13 (v21, s10.2.1, s10.2.2.1, s10.2.2.2.1, ()) h20 d12) (
pCall c (.fn 109 [] []) [s10.2.2.2.1, (.str [32])] h11 fun v22 h23 =>
pLeave d12 h23 fun h24 =>
some (v22, h24))) ((.int .i64 (.ofNat 0)), v9, v8, v4, ()) h5 []
theorem S81_eq (c : CV) (a0 : AV) (h : AH) : enterK Tryz.prog NN P81 c 81 [a0] h = S81 c a0 h := by kernel_rfl
def W81 (c : CV) (l : List AV) (h : AH) : R := match l with | [a0] => S81 c a0 h | _ => none
theorem W81_ok : WOk Tryz.prog 81 W81 := by
  intro c l h r e
  unfold W81 at e
  split at e
  · exact ⟨P81, by rw [S81_eq]; exact e⟩
  · cases e
/- (*quietus/view.View).Frees -/
def P82 : Pl := .z
def S82 (c : CV) (a0 : AV) (h : AH) : R :=
pNil a0 fun v0 =>
pFieldA v0 2 fun v1 =>
pLoad1 h v1 fun v2 =>
pCall c (.fn 110 [] []) [v2] h fun v3 h4 =>
some (v3, h4)
theorem S82_eq (c : CV) (a0 : AV) (h : AH) : enterK Tryz.prog NN P82 c 82 [a0] h = S82 c a0 h := by kernel_rfl
def W82 (c : CV) (l : List AV) (h : AH) : R := match l with | [a0] => S82 c a0 h | _ => none
theorem W82_ok : WOk Tryz.prog 82 W82 := by
  intro c l h r e
  unfold W82 at e
  split at e
  · exact ⟨P82, by rw [S82_eq]; exact e⟩
  · cases e
/- (*quietus/limbo.Limbo).Len -/
def P83 : Pl := .z
def S83 (_ : CV) (a0 : AV) (h : AH) : R :=
pNil a0 fun v0 =>
pFieldA v0 0 fun v1 =>
pLoad1 h v1 fun v2 =>
pLenS v2 fun v3 =>
some (v3, h)
theorem S83_eq (c : CV) (a0 : AV) (h : AH) : enterK Tryz.prog NN P83 c 83 [a0] h = S83 c a0 h := by kernel_rfl
def W83 (c : CV) (l : List AV) (h : AH) : R := match l with | [a0] => S83 c a0 h | _ => none
theorem W83_ok : WOk Tryz.prog 83 W83 := by
  intro c l h r e
  unfold W83 at e
  split at e
  · exact ⟨P83, by rw [S83_eq]; exact e⟩
  · cases e
/- (*quietus/limbo.Limbo).Ripe -/
def P84 : Pl := (.n none .z (.n none .z (.n none (.n none .z (.n none (.n (some [14, 13, 12, 6, 5, 1, 0]) (.n none .z (.n none .z (.n none (.n (some [14, 13, 12, 6, 5, 1, 0]) .z .z) .z))) .z) .z)) .z)))
def S84 (c : CV) (a0 a1 : AV) (h : AH) : R :=
pNil a0 fun v0 =>
pFieldA v0 0 fun v1 =>
pLoad1 h v1 fun v2 =>
pLenS v2 fun v3 =>
loopC (σ := AV × AV × AV × AV × AV × AV × AV × Unit) NN (fun i7 s4 h5 d6 =>
pInt .lss s4.1 s4.2.1 fun v8 =>
pCond v8 (
joinC (α := AV × AV × AV × AV × AV × AV × AV × Unit → AH → List Nat → R) (fun s9 h10 d11 =>
pInt .add s9.1 (.int .i64 (.ofNat 1)) fun v13 =>
i7 (v13, s9.2.1, s9.2.2.1, s9.2.2.2.1, s9.2.2.2.2.1, s9.2.2.2.2.2.1, s9.2.2.2.2.2.2.1, ()) h10 d11) fun j12 =>
pIdxS s4.2.2.1 s4.1 2 fun v14 =>
pLoadN h5 v14 2 fun v15 =>
pBox h5 138 (.agg [(.int .i64 (.ofNat 0)), (.int .u64 (.ofNat 0))]) fun v16 h17 =>
pStore h17 v16 v15 2 fun h18 =>
pFieldA v16 1 fun v19 =>
pLoad1 h18 v19 fun v20 =>
pCall c (.fn 111 [] []) [s4.2.2.2.2.2.1, v20] h18 fun v21 h22 =>
pCond v21 (
pLoadN h22 v16 2 fun v23 =>
pBuildS h22 138 [(.int .i64 (.ofNat 0)), (.int .u64 (.ofNat 0))] 1 [(0, 2, v23)] fun v24 h25 =>
pAppend h25 138 2 s4.2.2.2.2.1 v24 fun v26 h27 =>
j12 (s4.1, s4.2.1, s4.2.2.1, s4.2.2.2.1, v26, s4.2.2.2.2.2.1, s4.2.2.2.2.2.2.1, ()) h27 d6) (
pLoadN h22 v16 2 fun v28 =>
pBuildS h22 138 [(.int .i64 (.ofNat 0)), (.int .u64 (.ofNat 0))] 1 [(0, 2, v28)] fun v29 h30 =>
pAppend h30 138 2 s4.2.2.2.1 v29 fun v31 h32 =>
j12 (s4.1, s4.2.1, s4.2.2.1, v31, s4.2.2.2.2.1, s4.2.2.2.2.2.1, s4.2.2.2.2.2.2.1, ()) h32 d6)) (
pNil s4.2.2.2.2.2.2.1 fun v33 =>
pFieldA v33 0 fun v34 =>
pStore h5 v34 s4.2.2.2.1 1 fun h35 =>
pLeave d6 h35 fun h36 =>
some (s4.2.2.2.2.1, h36))) ((.int .i64 (.ofNat 0)), v3, v2, .nils, .nils, a1, a0, ()) h []
theorem S84_eq (c : CV) (a0 a1 : AV) (h : AH) : enterK Tryz.prog NN P84 c 84 [a0, a1] h = S84 c a0 a1 h := by kernel_rfl
def W84 (c : CV) (l : List AV) (h : AH) : R := match l with | [a0, a1] => S84 c a0 a1 h | _ => none
theorem W84_ok : WOk Tryz.prog 84 W84 := by
  intro c l h r e
  unfold W84 at e
  split at e
  · exact ⟨P84, by rw [S84_eq]; exact e⟩
  · cases e
/- (*quietus/heap.Heap).is -/
def P85 : Pl := (.n none .z (.n none (.r [[14, 7]]) .z))
def S85 (_ : CV) (a0 a1 : AV) (h : AH) : R :=
pInt .geq a1 (.int .i64 (.ofNat 1)) fun v0 =>
joinC (α := AV × AV × Unit → AH → R) (fun s1 h2 =>
pPick s1.2.1 s1.1 (.bool false) fun v4 =>
some (v4, h2)) fun j3 =>
pWant v0 true (
pNil a0 fun v5 =>
pFieldA v5 0 fun v6 =>
pLoad1 h v6 fun v7 =>
pLenS v7 fun v8 =>
pInt .lss a1 v8 fun v9 =>
j3 (v9, v0, ()) h) (
j3 (.undef, v0, ()) h)
theorem S85_eq (c : CV) (a0 a1 : AV) (h : AH) : enterK Tryz.prog NN P85 c 85 [a0, a1] h = S85 c a0 a1 h := by kernel_rfl
def W85 (c : CV) (l : List AV) (h : AH) : R := match l with | [a0, a1] => S85 c a0 a1 h | _ => none
theorem W85_ok : WOk Tryz.prog 85 W85 := by
  intro c l h r e
  unfold W85 at e
  split at e
  · exact ⟨P85, by rw [S85_eq]; exact e⟩
  · cases e
/- (*quietus/stripe.Table).is -/
def P86 : Pl := (.n none .z (.n none (.r [[14, 7]]) .z))
def S86 (_ : CV) (a0 a1 : AV) (h : AH) : R :=
pInt .geq a1 (.int .i64 (.ofNat 0)) fun v0 =>
joinC (α := AV × AV × Unit → AH → R) (fun s1 h2 =>
pPick s1.2.1 s1.1 (.bool false) fun v4 =>
some (v4, h2)) fun j3 =>
pWant v0 true (
pNil a0 fun v5 =>
pFieldA v5 0 fun v6 =>
pLoad1 h v6 fun v7 =>
pLenS v7 fun v8 =>
pInt .lss a1 v8 fun v9 =>
j3 (v9, v0, ()) h) (
j3 (.undef, v0, ()) h)
theorem S86_eq (c : CV) (a0 a1 : AV) (h : AH) : enterK Tryz.prog NN P86 c 86 [a0, a1] h = S86 c a0 a1 h := by kernel_rfl
def W86 (c : CV) (l : List AV) (h : AH) : R := match l with | [a0, a1] => S86 c a0 a1 h | _ => none
theorem W86_ok : WOk Tryz.prog 86 W86 := by
  intro c l h r e
  unfold W86 at e
  split at e
  · exact ⟨P86, by rw [S86_eq]; exact e⟩
  · cases e
/- (*quietus/stripe.Table).may -/
def P87 : Pl := .z
def S87 (c : CV) (a0 a1 a2 : AV) (h : AH) : R :=
pBox h 38 a2 fun v0 h1 =>
pCall c (.fn 86 [] []) [a0, a1] h1 fun v2 h3 =>
pUn .not v2 fun v4 =>
pCond v4 (
some ((.int .i64 (.ofNat 2)), h3)) (
pLoadN h3 v0 3 fun v5 =>
pCall c (.fn 112 [] []) [v5] h3 fun v6 h7 =>
pUn .not v6 fun v8 =>
pCond v8 (
some ((.int .i64 (.ofNat 1)), h7)) (
some ((.int .i64 (.ofNat 0)), h7)))
theorem S87_eq (c : CV) (a0 a1 a2 : AV) (h : AH) : enterK Tryz.prog NN P87 c 87 [a0, a1, a2] h = S87 c a0 a1 a2 h := by kernel_rfl
def W87 (c : CV) (l : List AV) (h : AH) : R := match l with | [a0, a1, a2] => S87 c a0 a1 a2 h | _ => none
theorem W87_ok : WOk Tryz.prog 87 W87 := by
  intro c l h r e
  unfold W87 at e
  split at e
  · exact ⟨P87, by rw [S87_eq]; exact e⟩
  · cases e
/- (*quietus/epoch.Slots).is -/
def P88 : Pl := (.n none .z (.n none (.r [[14, 7]]) .z))
def S88 (_ : CV) (a0 a1 : AV) (h : AH) : R :=
pInt .geq a1 (.int .i64 (.ofNat 0)) fun v0 =>
joinC (α := AV × AV × Unit → AH → R) (fun s1 h2 =>
pPick s1.2.1 s1.1 (.bool false) fun v4 =>
some (v4, h2)) fun j3 =>
pWant v0 true (
pNil a0 fun v5 =>
pFieldA v5 0 fun v6 =>
pLoad1 h v6 fun v7 =>
pLenS v7 fun v8 =>
pInt .lss a1 v8 fun v9 =>
j3 (v9, v0, ()) h) (
j3 (.undef, v0, ()) h)
theorem S88_eq (c : CV) (a0 a1 : AV) (h : AH) : enterK Tryz.prog NN P88 c 88 [a0, a1] h = S88 c a0 a1 h := by kernel_rfl
def W88 (c : CV) (l : List AV) (h : AH) : R := match l with | [a0, a1] => S88 c a0 a1 h | _ => none
theorem W88_ok : WOk Tryz.prog 88 W88 := by
  intro c l h r e
  unfold W88 at e
  split at e
  · exact ⟨P88, by rw [S88_eq]; exact e⟩
  · cases e
/- (*quietus/view.View).Known -/
def P89 : Pl := (.n none .z (.n none .z (.n none (.n none .z (.n none (.n (some [17, 16, 15, 3, 0]) .z .z) .z)) .z)))
def S89 (_ : CV) (a0 : AV) (h : AH) : R :=
pNil a0 fun v0 =>
pFieldA v0 1 fun v1 =>
pLoad1 h v1 fun v2 =>
pLenS v2 fun v3 =>
pMake h 133 [(.int .i64 (.ofNat 0)), (.int .u64 (.ofNat 0))] (.int .i64 (.ofNat 0)) v3 fun v4 h5 =>
pNil a0 fun v6 =>
pFieldA v6 1 fun v7 =>
pLoad1 h5 v7 fun v8 =>
pLenS v8 fun v9 =>
loopC (σ := AV × AV × AV × AV × AV × Unit) NN (fun i13 s10 h11 d12 =>
pInt .lss s10.1 s10.2.1 fun v14 =>
pCond v14 (
pIdxS s10.2.2.1 s10.1 1 fun v15 =>
pLoad1 h11 v15 fun v16 =>
pNil s10.2.2.2.2.1 fun v17 =>
pFieldA v17 0 fun v18 =>
pLoad1 h11 v18 fun v19 =>
pIdxS v19 v16 2 fun v20 =>
pFieldA v20 0 fun v21 =>
pLoad1 h11 v21 fun v22 =>
pBuild [(.int .i64 (.ofNat 0)), (.int .u64 (.ofNat 0))] [(0, 1, v16), (1, 1, v22)] fun v23 =>
pBuildS h11 133 [(.int .i64 (.ofNat 0)), (.int .u64 (.ofNat 0))] 1 [(0, 2, v23)] fun v24 h25 =>
pAppend h25 133 2 s10.2.2.2.1 v24 fun v26 h27 =>
pInt .add s10.1 (.int .i64 (.ofNat 1)) fun v28 =>
i13 (v28, s10.2.1, s10.2.2.1, v26, s10.2.2.2.2.1, ()) h27 d12) (
pLeave d12 h11 fun h29 =>
some (s10.2.2.2.1, h29))) ((.int .i64 (.ofNat 0)), v9, v8, v4, a0, ()) h5 []
theorem S89_eq (c : CV) (a0 : AV) (h : AH) : enterK Tryz.prog NN P89 c 89 [a0] h = S89 c a0 h := by kernel_rfl
def W89 (c : CV) (l : List AV) (h : AH) : R := match l with | [a0] => S89 c a0 h | _ => none
theorem W89_ok : WOk Tryz.prog 89 W89 := by
  intro c l h r e
  unfold W89 at e
  split at e
  · exact ⟨P89, by rw [S89_eq]; exact e⟩
  · cases e
/- (*quietus/patience.Patience).End -/
def P90 : Pl := .z
def S90 (_ : CV) (a0 : AV) (h : AH) : R :=
pNil a0 fun v0 =>
pFieldA v0 2 fun v1 =>
pLoad1 h v1 fun v2 =>
some (v2, h)
theorem S90_eq (c : CV) (a0 : AV) (h : AH) : enterK Tryz.prog NN P90 c 90 [a0] h = S90 c a0 h := by kernel_rfl
def W90 (c : CV) (l : List AV) (h : AH) : R := match l with | [a0] => S90 c a0 h | _ => none
theorem W90_ok : WOk Tryz.prog 90 W90 := by
  intro c l h r e
  unfold W90 at e
  split at e
  · exact ⟨P90, by rw [S90_eq]; exact e⟩
  · cases e
/- quietus/attempt.fresh -/
def P91 : Pl := (.n none .z (.n none .z (.n none (.r [[4]]) .z)))
def S91 (c : CV) (a0 a1 : AV) (h : AH) : R :=
pBox h 26 a1 fun v0 h1 =>
pLoadN h1 v0 8 fun v2 =>
pCall c (.fn 19 [] []) [v2] h1 fun v3 h4 =>
pStore h4 v0 v3 8 fun h5 =>
joinC (α := AV × Unit → AH → R) (fun s6 h7 =>
some (s6.1, h7)) fun j8 =>
pLoadN h5 v0 8 fun v9 =>
pFieldA v0 0 fun v10 =>
pFieldA v10 0 fun v11 =>
pLoad1 h5 v11 fun v12 =>
pFieldA v0 6 fun v13 =>
pLoad1 h5 v13 fun v14 =>
pCall c (.fn 113 [] []) [v12, v14] h5 fun v15 h16 =>
pCall c (.fn 114 [] []) [(.int .i64 (.ofNat 16))] h16 fun v17 h18 =>
pBuild [(.int .i64 (.ofNat 0)), (.int .i64 (.ofNat 0)), (.int .i64 (.ofNat 0)), (.int .i64 (.ofNat 0)), (.int .i64 (.ofNat 0)), (.int .u64 (.ofNat 0)), (.int .i64 (.ofNat 0)), (.int .i64 (.ofNat 0)), (.int .i64 (.ofNat 0)), .nilp, .nils, (.int .i64 (.ofNat 0)), .nilp, .nilp, (.int .i64 (.ofNat 0)), .nili, .nilp, .nilp, .nilp, (.bool false), (.int .u64 (.ofNat 0)), (.int .u64 (.ofNat 0)), (.int .i64 (.ofNat 0)), (.int .i64 (.ofNat 0)), (.int .i64 (.ofNat 0)), (.bool false)] [(0, 1, a0), (1, 8, v9), (12, 1, v15), (13, 1, v17), (23, 1, (.int .i64 (.negSucc 0)))] fun v19 =>
pBox h18 113 v19 fun v20 h21 =>
pChk v0 (some 8) v9 h16 h18 h5.nx <|
pChk v0 (some 8) v9 h5 h16 h5.nx <|
j8 (v20, ()) h21
theorem S91_eq (c : CV) (a0 a1 : AV) (h : AH) : enterK Tryz.prog NN P91 c 91 [a0, a1] h = S91 c a0 a1 h := by kernel_rfl
def W91 (c : CV) (l : List AV) (h : AH) : R := match l with | [a0, a1] => S91 c a0 a1 h | _ => none
theorem W91_ok : WOk Tryz.prog 91 W91 := by
  intro c l h r e
  unfold W91 at e
  split at e
  · exact ⟨P91, by rw [S91_eq]; exact e⟩
  · cases e
/- quietus/interp.New -/
def P92 : Pl := (.n none .z (.n none .z (.n none .z (.n none (.r [[6]]) .z))))
def S92 (c : CV) (a0 a1 a2 : AV) (h : AH) : R :=
pBox h 33 a0 fun v0 h1 =>
pFieldA v0 0 fun v2 =>
pLoad1 h1 v2 fun v3 =>
pAppend h1 30 5 .nils v3 fun v4 h5 =>
pFieldA v0 0 fun v6 =>
pStore h5 v6 v4 1 fun h7 =>
pLoadN h7 v0 1 fun v8 =>
pCall c (.fn 115 [] []) [v8] h7 fun v9 h10 =>
pExtract v9 0 fun _ =>
pExtract v9 1 fun v12 =>
joinC (α := AV × Unit → AH → R) (fun s13 h14 =>
some (s13.1, h14)) fun j15 =>
pLoadN h10 v0 1 fun v16 =>
pLoadN h10 v0 1 fun v17 =>
pCall c (.fn 116 [] []) [v17] h10 fun v18 h19 =>
pCall c (.fn 117 [] []) [] h19 fun v20 h21 =>
pMM false [a2, (.int .i64 (.ofNat 400))] fun v22 =>
pMM true [(.int .i64 (.ofNat 0)), v22] fun v23 =>
pBuild [.nils, .nilp, .nils, (.int .i64 (.ofNat 0)), (.int .i64 (.ofNat 0)), (.int .i64 (.ofNat 0)), (.int .u64 (.ofNat 0)), (.int .u64 (.ofNat 0)), (.int .u64 (.ofNat 0)), (.int .u64 (.ofNat 0)), (.int .u64 (.ofNat 0)), (.int .u64 (.ofNat 0)), (.int .u64 (.ofNat 0)), (.int .u64 (.ofNat 0)), .nilp, (.int .i64 (.ofNat 0)), (.int .i64 (.ofNat 0)), (.int .i64 (.ofNat 0)), .nils] [(0, 1, v16), (1, 1, a1), (2, 1, v18), (3, 1, v12), (14, 1, v20), (17, 1, v23)] fun v24 =>
pBox h21 175 v24 fun v25 h26 =>
pChk v0 (some 1) v16 h19 h21 h10.nx <|
pChk v0 (some 1) v16 h10 h19 h10.nx <|
j15 (v25, ()) h26
theorem S92_eq (c : CV) (a0 a1 a2 : AV) (h : AH) : enterK Tryz.prog NN P92 c 92 [a0, a1, a2] h = S92 c a0 a1 a2 h := by kernel_rfl
def W92 (c : CV) (l : List AV) (h : AH) : R := match l with | [a0, a1, a2] => S92 c a0 a1 a2 h | _ => none
theorem W92_ok : WOk Tryz.prog 92 W92 := by
  intro c l h r e
  unfold W92 at e
  split at e
  · exact ⟨P92, by rw [S92_eq]; exact e⟩
  · cases e
/- (*quietus/interp.Interp).Run -/
def P93 : Pl := (.n none .z (.n none (.n none (.n (some [0]) (.n none .z (.n (some [0]) (.n none .z (.n none .z (.n none .z (.n none .z (.n (some [0]) .z .z))))) .z)) .z) .z) .z))
def S93 (c : CV) (a0 : AV) (h : AH) : R :=
loopC (σ := AV × Unit) NN (fun i3 s0 h1 d2 =>
pNil s0.1 fun v4 =>
pFieldA v4 5 fun v5 =>
pLoad1 h1 v5 fun v6 =>
pInt .eql v6 (.int .i64 (.ofNat 0)) fun v7 =>
pCond v7 (
joinC (α := AV × Unit → AH → List Nat → R) (fun s8 h9 d10 =>
i3 (s8.1, ()) h9 d10) fun j11 =>
pNil s0.1 fun v12 =>
pFieldA v12 3 fun v13 =>
pLoad1 h1 v13 fun v14 =>
pInt .neq v14 (.int .i64 (.ofNat 0)) fun v15 =>
pCond v15 (
pNil s0.1 fun v16 =>
pFieldA v16 3 fun v17 =>
pLoad1 h1 v17 fun v18 =>
pCall c (.fn 118 [] []) [s0.1, v18] h1 fun _ h20 =>
j11 (s0.1, ()) h20 d2) (
pNil s0.1 fun v21 =>
pFieldA v21 15 fun v22 =>
pLoad1 h1 v22 fun v23 =>
pNil s0.1 fun v24 =>
pFieldA v24 0 fun v25 =>
pFieldA v25 0 fun v26 =>
pLoad1 h1 v26 fun v27 =>
pLenS v27 fun v28 =>
pInt .eql v23 v28 fun v29 =>
pCond v29 (
pNil s0.1 fun v30 =>
pFieldA v30 5 fun v31 =>
pStore h1 v31 (.int .i64 (.ofNat 2)) 1 fun h32 =>
j11 (s0.1, ()) h32 d2) (
pNil s0.1 fun v33 =>
pFieldA v33 17 fun v34 =>
pLoad1 h1 v34 fun v35 =>
pInt .eql v35 (.int .i64 (.ofNat 0)) fun v36 =>
pCond v36 (
pCall c (.fn 118 [] []) [s0.1, (.int .i64 (.ofNat 6))] h1 fun _ h38 =>
j11 (s0.1, ()) h38 d2) (
pNil s0.1 fun v39 =>
pFieldA v39 15 fun v40 =>
pLoad1 h1 v40 fun v41 =>
pInt .add v41 (.int .i64 (.ofNat 1)) fun v42 =>
pNil s0.1 fun v43 =>
pFieldA v43 16 fun v44 =>
pStore h1 v44 v42 1 fun h45 =>
pNil s0.1 fun v46 =>
pFieldA v46 0 fun v47 =>
pFieldA v47 0 fun v48 =>
pLoad1 h45 v48 fun v49 =>
pNil s0.1 fun v50 =>
pFieldA v50 15 fun v51 =>
pLoad1 h45 v51 fun v52 =>
pIdxS v49 v52 5 fun v53 =>
pLoadN h45 v53 5 fun v54 =>
pCall c (.fn 119 [] []) [s0.1, v54] h45 fun v55 h56 =>
joinC (α := AV × Unit → AH → List Nat → R) (fun s57 h58 d59 =>
j11 (s57.1, ()) h58 d59) fun j60 =>
pInt .eql v55 (.int .i64 (.ofNat 0)) fun v61 =>
pCond v61 (
pNil s0.1 fun v62 =>
pFieldA v62 16 fun v63 =>
pLoad1 h56 v63 fun v64 =>
pNil s0.1 fun v65 =>
pFieldA v65 15 fun v66 =>
pStore h56 v66 v64 1 fun h67 =>
pNil s0.1 fun v68 =>
pFieldA v68 17 fun v69 =>
pLoad1 h67 v69 fun v70 =>
pInt .sub v70 (.int .i64 (.ofNat 1)) fun v71 =>
pNil s0.1 fun v72 =>
pFieldA v72 17 fun v73 =>
pStore h67 v73 v71 1 fun h74 =>
j60 (s0.1, ()) h74 d2) (
pInt .eql v55 (.int .i64 (.ofNat 11)) fun v75 =>
pCond v75 (
pLeave d2 h56 fun h76 =>
some ((.int .i64 (.ofNat 1)), h76)) (
pCall c (.fn 118 [] []) [s0.1, v55] h56 fun _ h78 =>
j60 (s0.1, ()) h78 d2)))))) (
pNil s0.1 fun v79 =>
pFieldA v79 5 fun v80 =>
pLoad1 h1 v80 fun v81 =>
pLeave d2 h1 fun h82 =>
some (v81, h82))) (a0, ()) h []
theorem S93_eq (c : CV) (a0 : AV) (h : AH) : enterK Tryz.prog NN P93 c 93 [a0] h = S93 c a0 h := by kernel_rfl
def W93 (c : CV) (l : List AV) (h : AH) : R := match l with | [a0] => S93 c a0 h | _ => none
theorem W93_ok : WOk Tryz.prog 93 W93 := by
  intro c l h r e
  unfold W93 at e
  split at e
  · exact ⟨P93, by rw [S93_eq]; exact e⟩
  · cases e
/- (*quietus/interp.Interp).Err -/
def P94 : Pl := .z
def S94 (_ : CV) (a0 : AV) (h : AH) : R :=
pNil a0 fun v0 =>
pFieldA v0 4 fun v1 =>
pLoad1 h v1 fun v2 =>
some (v2, h)
theorem S94_eq (c : CV) (a0 : AV) (h : AH) : enterK Tryz.prog NN P94 c 94 [a0] h = S94 c a0 h := by kernel_rfl
def W94 (c : CV) (l : List AV) (h : AH) : R := match l with | [a0] => S94 c a0 h | _ => none
theorem W94_ok : WOk Tryz.prog 94 W94 := by
  intro c l h r e
  unfold W94 at e
  split at e
  · exact ⟨P94, by rw [S94_eq]; exact e⟩
  · cases e
/- quietus/arena.Give -/
def P95 : Pl := (.n none .z (.n none .z (.n (some [7, 5, 1, 0]) (.n none (.r [[19, 18, 7, 5, 1, 0]]) .z) .z)))
def S95 (c : CV) (a0 a1 : AV) (h : AH) : R :=
pCall c (.fn 120 [] []) [a0, a1] h fun v0 h1 =>
pExtract v0 0 fun v2 =>
pExtract v0 1 fun v3 =>
pExtract v0 2 fun v4 =>
joinC (α := AV × AV × AV × AV × Unit → AH → List Nat → R) (fun s5 h6 d7 =>
pInt .neq s5.1 (.int .i64 (.ofNat 0)) fun v9 =>
pCond v9 (
pLeave d7 h6 fun h10 =>
some (s5.1, h10)) (
pCall c (.fn 122 [] []) [s5.2.1] h6 fun v11 h12 =>
pCall c (.fn 121 [] []) [s5.2.2.2.1, v11] h12 fun v13 h14 =>
pExtract v13 0 fun v15 =>
pExtract v13 1 fun v16 =>
pInt .neq v16 (.int .i64 (.ofNat 0)) fun v17 =>
pCond v17 (
pLeave d7 h14 fun h18 =>
some (v16, h18)) (
pBuild [(.int .i64 (.ofNat 0)), (.int .u64 (.ofNat 0))] [(0, 1, s5.2.2.1), (1, 1, v15)] fun v19 =>
pCall c (.fn 122 [] []) [s5.2.1] h14 fun v20 h21 =>
pConvI .u64 s5.2.2.1 fun v22 =>
pBuild [(.int .i64 (.ofNat 0)), (.int .u64 (.ofNat 0))] [(0, 1, v20), (1, 1, v22)] fun v23 =>
pBuildS h21 133 [(.int .i64 (.ofNat 0)), (.int .u64 (.ofNat 0))] 2 [(0, 2, v19), (2, 2, v23)] fun v24 h25 =>
pCall c (.fn 123 [] []) [s5.2.2.2.1, v24] h25 fun v26 h27 =>
pLeave d7 h27 fun h28 =>
some (v26, h28)))) fun j8 =>
pInt .eql v4 (.int .i64 (.ofNat 0)) fun v29 =>
joinC (α := AV × AV × AV × AV × AV × AV × Unit → AH → R) (fun s30 h31 =>
pPick s30.2.1 s30.1 (.bool false) fun v33 =>
pCond v33 (
j8 ((.int .i64 (.ofNat 2)), s30.2.2.2.1, s30.2.2.2.2.1, s30.2.2.2.2.2.1, ()) h31 []) (
j8 (s30.2.2.1, s30.2.2.2.1, s30.2.2.2.2.1, s30.2.2.2.2.2.1, ()) h31 [])) fun j32 =>
pWant v29 true (
j32 (v3, v29, v4, v2, a1, a0, ()) h1) (
j32 (.undef, v29, v4, v2, a1, a0, ()) h1)
theorem S95_eq (c : CV) (a0 a1 : AV) (h : AH) : enterK Tryz.prog NN P95 c 95 [a0, a1] h = S95 c a0 a1 h := by kernel_rfl
def W95 (c : CV) (l : List AV) (h : AH) : R := match l with | [a0, a1] => S95 c a0 a1 h | _ => none
theorem W95_ok : WOk Tryz.prog 95 W95 := by
  intro c l h r e
  unfold W95 at e
  split at e
  · exact ⟨P95, by rw [S95_eq]; exact e⟩
  · cases e
/- quietus/fetch.New -/
def P96 : Pl := .z
def S96 (c : CV) (a0 a1 a2 a3 a4 : AV) (h : AH) : R :=
pCall c (.fn 100 [] []) [a0, a3] h fun v0 h1 =>
pBuild [(.int .i64 (.ofNat 0)), (.int .i64 (.ofNat 0)), (.int .i64 (.ofNat 0)), (.int .i64 (.ofNat 0)), (.int .i64 (.ofNat 0)), (.int .i64 (.ofNat 0)), (.int .i64 (.ofNat 0)), (.int .u64 (.ofNat 0)), (.int .i64 (.ofNat 0)), (.int .u64 (.ofNat 0)), (.bool false), (.int .i64 (.ofNat 0)), (.int .u64 (.ofNat 0))] [(0, 5, v0), (5, 1, a1), (6, 1, a2), (7, 1, a4)] fun v2 =>
pBox h1 198 v2 fun v3 h4 =>
some (v3, h4)
theorem S96_eq (c : CV) (a0 a1 a2 a3 a4 : AV) (h : AH) : enterK Tryz.prog NN P96 c 96 [a0, a1, a2, a3, a4] h = S96 c a0 a1 a2 a3 a4 h := by kernel_rfl
def W96 (c : CV) (l : List AV) (h : AH) : R := match l with | [a0, a1, a2, a3, a4] => S96 c a0 a1 a2 a3 a4 h | _ => none
theorem W96_ok : WOk Tryz.prog 96 W96 := by
  intro c l h r e
  unfold W96 at e
  split at e
  · exact ⟨P96, by rw [S96_eq]; exact e⟩
  · cases e
/- quietus/stripe.Of -/
def P97 : Pl := .z
def S97 (c : CV) (a0 a1 a2 : AV) (h : AH) : R :=
pInt .lss a0 (.int .i64 (.ofNat 0)) fun v0 =>
pCond v0 (
some ((.int .i64 (.negSucc 0)), h)) (
pCall c (.fn 36 [] []) [a2, (.int .i64 (.ofNat 16))] h fun v1 h2 =>
pInt .quo a0 v1 fun v3 =>
pCall c (.fn 36 [] []) [a1, (.int .i64 (.ofNat 16))] h2 fun v4 h5 =>
pInt .rem v3 v4 fun v6 =>
some (v6, h5))
theorem S97_eq (c : CV) (a0 a1 a2 : AV) (h : AH) : enterK Tryz.prog NN P97 c 97 [a0, a1, a2] h = S97 c a0 a1 a2 h := by kernel_rfl
def W97 (c : CV) (l : List AV) (h : AH) : R := match l with | [a0, a1, a2] => S97 c a0 a1 a2 h | _ => none
theorem W97_ok : WOk Tryz.prog 97 W97 := by
  intro c l h r e
  unfold W97 at e
  split at e
  · exact ⟨P97, by rw [S97_eq]; exact e⟩
  · cases e
/- quietus/extend.New -/
def P98 : Pl := .z
def S98 (c : CV) (a0 a1 a2 : AV) (h : AH) : R :=
pCall c (.fn 100 [] []) [a0, a1] h fun v0 h1 =>
pCall c (.fn 101 [] []) [a2] h1 fun v2 h3 =>
pBuild [(.int .i64 (.ofNat 0)), (.int .i64 (.ofNat 0)), (.int .i64 (.ofNat 0)), (.int .i64 (.ofNat 0)), (.int .i64 (.ofNat 0)), .nils, (.bool false), (.int .i64 (.ofNat 0)), (.int .u64 (.ofNat 0))] [(0, 5, v0), (5, 1, v2)] fun v4 =>
pBox h3 200 v4 fun v5 h6 =>
some (v5, h6)
theorem S98_eq (c : CV) (a0 a1 a2 : AV) (h : AH) : enterK Tryz.prog NN P98 c 98 [a0, a1, a2] h = S98 c a0 a1 a2 h := by kernel_rfl
def W98 (c : CV) (l : List AV) (h : AH) : R := match l with | [a0, a1, a2] => S98 c a0 a1 a2 h | _ => none
theorem W98_ok : WOk Tryz.prog 98 W98 := by
  intro c l h r e
  unfold W98 at e
  split at e
  · exact ⟨P98, by rw [S98_eq]; exact e⟩
  · cases e
/- (*quietus/levels.Levels).Cells -/
def P99 : Pl := (.n none .z (.n none .z (.n none (.n none .z (.n none (.n (some [3]) .z .z) .z)) .z)))
def S99 (c : CV) (a0 : AV) (h : AH) : R :=
pBox h 55 .nils fun v0 h1 =>
pNil a0 fun v2 =>
pFieldA v2 1 fun v3 =>
pLoad1 h1 v3 fun v4 =>
pCall c (.fn 124 [] []) [v4] h1 fun v5 h6 =>
pCallF c v5 [.yield (h6.new .dfd).nx] ((h6.new .dfd).new (.loop .ready none 99 [1, 1, 0, 1, 0] [3] [v0] h6.nx)) fun _ h7 =>
pEndLoop h7 (h6.new .dfd).nx fun p9 h8 =>
pNone p9 (
pLoad1 h8 v0 fun v10 =>
pLeave (h6.nx :: []) h8 fun h11 =>
some (v10, h11)) <|
none
theorem S99_eq (c : CV) (a0 : AV) (h : AH) : enterK Tryz.prog NN P99 c 99 [a0] h = S99 c a0 h := by kernel_rfl
def W99 (c : CV) (l : List AV) (h : AH) : R := match l with | [a0] => S99 c a0 h | _ => none
theorem W99_ok : WOk Tryz.prog 99 W99 := by
  intro c l h r e
  unfold W99 at e
  split at e
  · exact ⟨P99, by rw [S99_eq]; exact e⟩
  · cases e
/- quietus/patience.New -/
def P100 : Pl := .z
def S100 (_ : CV) (a0 a1 : AV) (h : AH) : R :=
pBox h 152 (.agg [(.int .i64 (.ofNat 0)), (.int .i64 (.ofNat 0)), (.int .i64 (.ofNat 0)), (.int .i64 (.ofNat 0)), (.int .i64 (.ofNat 0))]) fun v0 h1 =>
pMM false [a1, (.int .i64 (.ofNat 4))] fun v2 =>
pMM true [(.int .i64 (.ofNat 0)), v2] fun v3 =>
pBuild [(.int .i64 (.ofNat 0)), (.int .i64 (.ofNat 0)), (.int .i64 (.ofNat 0)), (.int .i64 (.ofNat 0)), (.int .i64 (.ofNat 0))] [(0, 1, a0), (1, 1, v3), (3, 1, (.int .i64 (.negSucc 0)))] fun v4 =>
pStore h1 v0 v4 5 fun h5 =>
pLoadN h5 v0 5 fun v6 =>
some (v6, h5)
theorem S100_eq (c : CV) (a0 a1 : AV) (h : AH) : enterK Tryz.prog NN P100 c 100 [a0, a1] h = S100 c a0 a1 h := by kernel_rfl
def W100 (c : CV) (l : List AV) (h : AH) : R := match l with | [a0, a1] => S100 c a0 a1 h | _ => none
theorem W100_ok : WOk Tryz.prog 100 W100 := by
  intro c l h r e
  unfold W100 at e
  split at e
  · exact ⟨P100, by rw [S100_eq]; exact e⟩
  · cases e
/- slices.Clone[[]quietus/api.Seen,quietus/api.Seen] -/
def P101 : Pl := .z
def S101 (_ : CV) (a0 : AV) (h : AH) : R :=
pEq .slc false a0 .nils fun v0 =>
pCond v0 (
some (.nils, h)) (
pBuildS h 168 [(.int .i64 (.ofNat 0)), (.int .u64 (.ofNat 0))] 0 [] fun v1 h2 =>
pAppend h2 168 2 v1 a0 fun v3 h4 =>
some (v3, h4))
theorem S101_eq (c : CV) (a0 : AV) (h : AH) : enterK Tryz.prog NN P101 c 101 [a0] h = S101 c a0 h := by kernel_rfl
def W101 (c : CV) (l : List AV) (h : AH) : R := match l with | [a0] => S101 c a0 h | _ => none
theorem W101_ok : WOk Tryz.prog 101 W101 := by
  intro c l h r e
  unfold W101 at e
  split at e
  · exact ⟨P101, by rw [S101_eq]; exact e⟩
  · cases e
/- quietus/writes.Stripes -/
def P102 : Pl := (.n none .z (.n none .z (.n none (.n none .z (.n none (.n (some [13, 12, 11, 7, 2, 1]) (.n none .z (.n none .z (.n none (.n (some [13, 12, 11, 7, 2, 1]) .z .z) .z))) .z) .z)) .z)))
def S102 (c : CV) (a0 a1 a2 : AV) (h : AH) : R :=
pLenS a0 fun v0 =>
loopC (σ := AV × AV × AV × AV × AV × AV × Unit) NN (fun i4 s1 h2 d3 =>
pInt .lss s1.1 s1.2.1 fun v5 =>
pCond v5 (
joinC (α := AV × AV × AV × AV × AV × AV × Unit → AH → List Nat → R) (fun s6 h7 d8 =>
pInt .add s6.1 (.int .i64 (.ofNat 1)) fun v10 =>
i4 (v10, s6.2.1, s6.2.2.1, s6.2.2.2.1, s6.2.2.2.2.1, s6.2.2.2.2.2.1, ()) h7 d8) fun j9 =>
pIdxS s1.2.2.1 s1.1 2 fun v11 =>
pLoadN h2 v11 2 fun v12 =>
pBox h2 133 (.agg [(.int .i64 (.ofNat 0)), (.int .u64 (.ofNat 0))]) fun v13 h14 =>
pStore h14 v13 v12 2 fun h15 =>
pFieldA v13 0 fun v16 =>
pLoad1 h15 v16 fun v17 =>
pCall c (.fn 97 [] []) [v17, s1.2.2.2.2.2.1, s1.2.2.2.2.1] h15 fun v18 h19 =>
pInt .geq v18 (.int .i64 (.ofNat 0)) fun v20 =>
pCond v20 (
pBuildS h19 3 [(.int .i64 (.ofNat 0))] 1 [(0, 1, v18)] fun v21 h22 =>
pAppend h22 3 1 s1.2.2.2.1 v21 fun v23 h24 =>
j9 (s1.1, s1.2.1, s1.2.2.1, v23, s1.2.2.2.2.1, s1.2.2.2.2.2.1, ()) h24 d3) (
j9 (s1.1, s1.2.1, s1.2.2.1, s1.2.2.2.1, s1.2.2.2.2.1, s1.2.2.2.2.2.1, ()) h19 d3)) (
pCall c (.fn 128 [] []) [s1.2.2.2.1] h2 fun _ h26 =>
pCall c (.fn 129 [] []) [s1.2.2.2.1] h26 fun v27 h28 =>
pLeave d3 h28 fun h29 =>
some (v27, h29))) ((.int .i64 (.ofNat 0)), v0, a0, .nils, a2, a1, ()) h []
theorem S102_eq (c : CV) (a0 a1 a2 : AV) (h : AH) : enterK Tryz.prog NN P102 c 102 [a0, a1, a2] h = S102 c a0 a1 a2 h := by kernel_rfl
def W102 (c : CV) (l : List AV) (h : AH) : R := match l with | [a0, a1, a2] => S102 c a0 a1 a2 h | _ => none
theorem W102_ok : WOk Tryz.prog 102 W102 := by
  intro c l h r e
  unfold W102 at e
  split at e
  · exact ⟨P102, by rw [S102_eq]; exact e⟩
  · cases e
/- (*quietus/commit.Commit).more -/
def P103 : Pl := .z
def S103 (_ : CV) (a0 : AV) (h : AH) : R :=
pNil a0 fun v0 =>
pFieldA v0 11 fun v1 =>
pStore h v1 (.int .i64 (.ofNat 0)) 1 fun h2 =>
pNil a0 fun v3 =>
pFieldA v3 10 fun v4 =>
pLoad1 h2 v4 fun v5 =>
pLenS v5 fun v6 =>
pNil a0 fun v7 =>
pFieldA v7 9 fun v8 =>
pLoad1 h2 v8 fun v9 =>
pLenS v9 fun v10 =>
pInt .eql v6 v10 fun v11 =>
pCond v11 (
pNil a0 fun v12 =>
pFieldA v12 11 fun v13 =>
pStore h2 v13 (.int .i64 (.ofNat 2)) 1 fun h14 =>
some ((.tup []), h14)) (
some ((.tup []), h2))
theorem S103_eq (c : CV) (a0 : AV) (h : AH) : enterK Tryz.prog NN P103 c 103 [a0] h = S103 c a0 h := by kernel_rfl
def W103 (c : CV) (l : List AV) (h : AH) : R := match l with | [a0] => S103 c a0 h | _ => none
theorem W103_ok : WOk Tryz.prog 103 W103 := by
  intro c l h r e
  unfold W103 at e
  split at e
  · exact ⟨P103, by rw [S103_eq]; exact e⟩
  · cases e
/- (*quietus/attempt.Attempt).fetched -/
def P104 : Pl := (.n none .z (.n none (.r [[2, 0]]) (.n none .z (.n (some []) (.n none .z (.n none (.n none (.r [[0]]) .z) .z)) .z))))
def S104 (c : CV) (a0 : AV) (h : AH) : R :=
pNil a0 fun v0 =>
pFieldA v0 16 fun v1 =>
pLoad1 h v1 fun v2 =>
pCall c (.fn 130 [] []) [v2] h fun v3 h4 =>
pInt .eql v3 (.int .i64 (.ofNat 6)) fun v5 =>
pCond v5 (
pCall c (.fn 72 [] []) [a0, (.int .i64 (.ofNat 4))] h4 fun _ h7 =>
some ((.tup []), h7)) (
joinC (α := AV × AV × Unit → AH → R) (fun s8 h9 =>
joinC (α := Unit → AH → List Nat → R) (fun _ h12 d13 =>
pLeave d13 h12 fun h15 =>
some ((.tup []), h15)) fun j14 =>
pInt .eql s8.1 (.int .i64 (.ofNat 0)) fun v16 =>
pCond v16 (
joinC (α := AV × Unit → AH → R) (fun s17 h18 =>
pCall c (.fn 39 [] []) [s17.1] h18 fun _ h21 =>
j14 (()) h21 []) fun j19 =>
pNil s8.2.1 fun v22 =>
pFieldA v22 12 fun v23 =>
pLoad1 h9 v23 fun v24 =>
pNil s8.2.1 fun v25 =>
pFieldA v25 12 fun v26 =>
pLoad1 h9 v26 fun v27 =>
pCall c (.fn 71 [] []) [v27] h9 fun v28 h29 =>
pNil s8.2.1 fun v30 =>
pFieldA v30 16 fun v31 =>
pLoad1 h29 v31 fun v32 =>
pCall c (.fn 134 [] []) [v32] h29 fun v33 h34 =>
pCall c (.fn 133 [] []) [v24, v28, v33] h34 fun _ h36 =>
pChk v31 none v32 h9 h29 h9.nx <|
pChk v23 none v24 h29 h34 h9.nx <|
pChk v23 none v24 h9 h29 h9.nx <|
j19 (s8.2.1, ()) h36) (
pInt .eql s8.1 (.int .i64 (.ofNat 14)) fun v37 =>
pCond v37 (
pCall c (.fn 38 [] []) [s8.2.1, (.int .i64 (.ofNat 5)), (.int .i64 (.ofNat 0)), (.int .i64 (.negSucc 0))] h9 fun _ h39 =>
j14 (()) h39 []) (
pCall c (.fn 38 [] []) [s8.2.1, (.int .i64 (.ofNat 4)), s8.1, (.int .i64 (.negSucc 0))] h9 fun _ h41 =>
j14 (()) h41 []))) fun j10 =>
pNil a0 fun v42 =>
pFieldA v42 13 fun v43 =>
pLoad1 h4 v43 fun v44 =>
pNil a0 fun v45 =>
pFieldA v45 16 fun v46 =>
pLoad1 h4 v46 fun v47 =>
pCall c (.fn 132 [] []) [v47] h4 fun v48 h49 =>
pCall c (.fn 131 [] []) [v44, v48] h49 fun v50 h51 =>
pChk v43 none v44 h4 h49 h4.nx <|
j10 (v50, a0, ()) h51)
theorem S104_eq (c : CV) (a0 : AV) (h : AH) : enterK Tryz.prog NN P104 c 104 [a0] h = S104 c a0 h := by kernel_rfl
def W104 (c : CV) (l : List AV) (h : AH) : R := match l with | [a0] => S104 c a0 h | _ => none
theorem W104_ok : WOk Tryz.prog 104 W104 := by
  intro c l h r e
  unfold W104 at e
  split at e
  · exact ⟨P104, by rw [S104_eq]; exact e⟩
  · cases e
/- (*quietus/extend.Extend).Stamp -/
def P105 : Pl := .z
def S105 (c : CV) (a0 : AV) (h : AH) : R :=
pCall c (.fn 135 [] []) [a0] h fun v0 h1 =>
pInt .neq v0 (.int .i64 (.ofNat 2)) fun v2 =>
pCond v2 (
some ((.int .u64 (.ofNat 0)), h1)) (
pNil a0 fun v3 =>
pFieldA v3 8 fun v4 =>
pLoad1 h1 v4 fun v5 =>
some (v5, h1))
theorem S105_eq (c : CV) (a0 : AV) (h : AH) : enterK Tryz.prog NN P105 c 105 [a0] h = S105 c a0 h := by kernel_rfl
def W105 (c : CV) (l : List AV) (h : AH) : R := match l with | [a0] => S105 c a0 h | _ => none
theorem W105_ok : WOk Tryz.prog 105 W105 := by
  intro c l h r e
  unfold W105 at e
  split at e
  · exact ⟨P105, by rw [S105_eq]; exact e⟩
  · cases e
/- (*quietus/commit.Commit).Err -/
def P106 : Pl := .z
def S106 (c : CV) (a0 : AV) (h : AH) : R :=
pNil a0 fun v0 =>
pFieldA v0 0 fun v1 =>
pCall c (.fn 136 [] []) [v1] h fun v2 h3 =>
some (v2, h3)
theorem S106_eq (c : CV) (a0 : AV) (h : AH) : enterK Tryz.prog NN P106 c 106 [a0] h = S106 c a0 h := by kernel_rfl
def W106 (c : CV) (l : List AV) (h : AH) : R := match l with | [a0] => S106 c a0 h | _ => none
theorem W106_ok : WOk Tryz.prog 106 W106 := by
  intro c l h r e
  unfold W106 at e
  split at e
  · exact ⟨P106, by rw [S106_eq]; exact e⟩
  · cases e
/- (*quietus/slate.Slate).Copy -/
def P107 : Pl := .z
def S107 (c : CV) (a0 : AV) (h : AH) : R :=
pNil a0 fun v0 =>
pFieldA v0 0 fun v1 =>
pLoad1 h v1 fun v2 =>
pCall c (.fn 137 [] []) [v2] h fun v3 h4 =>
pBuild [.nils] [(0, 1, v3)] fun v5 =>
pBox h4 179 v5 fun v6 h7 =>
some (v6, h7)
theorem S107_eq (c : CV) (a0 : AV) (h : AH) : enterK Tryz.prog NN P107 c 107 [a0] h = S107 c a0 h := by kernel_rfl
def W107 (c : CV) (l : List AV) (h : AH) : R := match l with | [a0] => S107 c a0 h | _ => none
theorem W107_ok : WOk Tryz.prog 107 W107 := by
  intro c l h r e
  unfold W107 at e
  split at e
  · exact ⟨P107, by rw [S107_eq]; exact e⟩
  · cases e
/- quietus/slate.word -/
def P108 : Pl := .z
def S108 (c : CV) (a0 : AV) (h : AH) : R :=
pAssertOk 22 (.int .u64 (.ofNat 0)) a0 fun v0 =>
pExtract v0 1 fun v1 =>
pExtract v0 0 fun v2 =>
pCond v1 (
pCall c (.fn 138 [] []) [v2, (.int .i64 (.ofNat 10))] h fun v3 h4 =>
some (v3, h4)) (
pAssertOk 4 (.bool false) a0 fun v5 =>
pExtract v5 1 fun v6 =>
pExtract v5 0 fun v7 =>
pCond v6 (
pCond v7 (
some ((.str [121, 101, 115]), h)) (
some ((.str [110, 111]), h))) (
some ((.str [110, 111, 110, 101]), h)))
theorem S108_eq (c : CV) (a0 : AV) (h : AH) : enterK Tryz.prog NN P108 c 108 [a0] h = S108 c a0 h := by kernel_rfl
def W108 (c : CV) (l : List AV) (h : AH) : R := match l with | [a0] => S108 c a0 h | _ => none
theorem W108_ok : WOk Tryz.prog 108 W108 := by
  intro c l h r e
  unfold W108 at e
  split at e
  · exact ⟨P108, by rw [S108_eq]; exact e⟩
  · cases e
/- strings.Join -/
def P109 : Pl := (.n none .z (.n none .z (.n none .z (.n (some [5, 1, 0]) (.n none .z (.n none (.n (some [5, 1, 0]) .z .z) .z)) (.n none (.n none .z (.n none (.n (some [41, 40, 39, 5, 1, 0]) (.n none .z (.n none .z (.n none (.n none (.n none .z (.n (some [41, 40, 39, 7, 5, 1, 0]) .z .z)) .z) .z))) .z) .z)) (.n none .z (.n none .z (.n none .z (.n none (.n none .z (.n none (.n (some [65, 64, 63, 8, 1]) .z .z) .z)) .z)))))))))
def S109 (c : CV) (a0 a1 : AV) (h : AH) : R :=
pLenS a0 fun v0 =>
pInt .eql v0 (.int .i64 (.ofNat 0)) fun v1 =>
pCond v1 (
some ((.str []), h)) (
pInt .eql v0 (.int .i64 (.ofNat 1)) fun v2 =>
pCond v2 (
pIdxS a0 (.int .i64 (.ofNat 0)) 1 fun v3 =>
pLoad1 h v3 fun v4 =>
some (v4, h)) (
joinC (α := AV × AV × AV × Unit → AH → List Nat → R) (fun s5 h6 d7 =>
pLenS s5.2.2.1 fun v9 =>
loopC (σ := AV × AV × AV × AV × AV × AV × Unit) NN (fun i13 s10 h11 d12 =>
pInt .lss s10.1 s10.2.1 fun v14 =>
pCond v14 (
pIdxS s10.2.2.1 s10.1 1 fun v15 =>
pLoad1 h11 v15 fun v16 =>
joinC (α := AV × AV × AV × AV × AV × AV × AV × Unit → AH → List Nat → R) (fun s17 h18 d19 =>
pLenStr s17.2.2.2.1 fun v21 =>
pInt .add s17.2.2.2.2.1 v21 fun v22 =>
pInt .add s17.1 (.int .i64 (.ofNat 1)) fun v23 =>
i13 (v23, s17.2.1, s17.2.2.1, v22, s17.2.2.2.2.2.1, s17.2.2.2.2.2.2.1, ()) h18 d19) fun j20 =>
pLenStr v16 fun v24 =>
pInt .sub (.int .i64 (.ofNat 9223372036854775807)) s10.2.2.2.1 fun v25 =>
pInt .gtr v24 v25 fun v26 =>
pCond v26 (
none /- op -/) (
j20 (s10.1, s10.2.1, s10.2.2.1, v16, s10.2.2.2.1, s10.2.2.2.2.1, s10.2.2.2.2.2.1, ()) h11 d12)) (
pBox h11 220 (.agg [.nilp, .nils]) fun v27 h28 =>
pCall c (.fn 139 [] []) [v27, s10.2.2.2.1] h28 fun _ h30 =>
pIdxS s10.2.2.2.2.2.1 (.int .i64 (.ofNat 0)) 1 fun v31 =>
pLoad1 h30 v31 fun v32 =>
pCall c (.fn 140 [] []) [v27, v32] h30 fun _ h34 =>
pSlice h34 9 1 s10.2.2.2.2.2.1 (some (.int .i64 (.ofNat 1))) none fun v35 =>
pLenS v35 fun v36 =>
loopC (σ := AV × AV × AV × AV × AV × Unit) NN (fun i40 s37 h38 d39 =>
pInt .lss s37.1 s37.2.1 fun v41 =>
pCond v41 (
pIdxS s37.2.2.1 s37.1 1 fun v42 =>
pLoad1 h38 v42 fun v43 =>
pCall c (.fn 140 [] []) [s37.2.2.2.1, s37.2.2.2.2.1] h38 fun _ h45 =>
pCall c (.fn 140 [] []) [s37.2.2.2.1, v43] h45 fun _ h47 =>
pInt .add s37.1 (.int .i64 (.ofNat 1)) fun v48 =>
i40 (v48, s37.2.1, s37.2.2.1, s37.2.2.2.1, s37.2.2.2.2.1, ()) h47 d39) (
pCall c (.fn 141 [] []) [s37.2.2.2.1] h38 fun v49 h50 =>
pLeave d39 h50 fun h51 =>
some (v49, h51))) ((.int .i64 (.ofNat 0)), v36, v35, v27, s10.2.2.2.2.1, ()) h34 d12)) ((.int .i64 (.ofNat 0)), v9, s5.2.2.1, s5.1, s5.2.1, s5.2.2.1, ()) h6 d7) fun j8 =>
pLenStr a1 fun v52 =>
pInt .gtr v52 (.int .i64 (.ofNat 0)) fun v53 =>
pCond v53 (
joinC (α := AV × AV × AV × Unit → AH → List Nat → R) (fun s54 h55 d56 =>
pLenStr s54.2.1 fun v58 =>
pLenS s54.2.2.1 fun v59 =>
pInt .sub v59 (.int .i64 (.ofNat 1)) fun v60 =>
pInt .mul v58 v60 fun v61 =>
pInt .add s54.1 v61 fun v62 =>
j8 (v62, s54.2.1, s54.2.2.1, ()) h55 d56) fun j57 =>
pLenStr a1 fun v63 =>
pLenS a0 fun v64 =>
pInt .sub v64 (.int .i64 (.ofNat 1)) fun v65 =>
pInt .quo (.int .i64 (.ofNat 9223372036854775807)) v65 fun v66 =>
pInt .geq v63 v66 fun v67 =>
pCond v67 (
none /- op -/) (
j57 ((.int .i64 (.ofNat 0)), a1, a0, ()) h [])) (
j8 ((.int .i64 (.ofNat 0)), a1, a0, ()) h [])))
theorem S109_eq (c : CV) (a0 a1 : AV) (h : AH) : enterK Tryz.prog NN P109 c 109 [a0, a1] h = S109 c a0 a1 h := by kernel_rfl
def W109 (c : CV) (l : List AV) (h : AH) : R := match l with | [a0, a1] => S109 c a0 a1 h | _ => none
theorem W109_ok : WOk Tryz.prog 109 W109 := by
  intro c l h r e
  unfold W109 at e
  split at e
  · exact ⟨P109, by rw [S109_eq]; exact e⟩
  · cases e
/- (*quietus/levels.Levels).Frees -/
def P110 : Pl := (.n none .z (.n none .z (.n none (.n none .z (.n none (.n (some [11, 10, 9, 3]) .z .z) .z)) .z)))
def S110 (_ : CV) (a0 : AV) (h : AH) : R :=
pNil a0 fun v0 =>
pFieldA v0 1 fun v1 =>
pLoad1 h v1 fun v2 =>
pLenS v2 fun v3 =>
loopC (σ := AV × AV × AV × AV × Unit) NN (fun i7 s4 h5 d6 =>
pInt .lss s4.1 s4.2.1 fun v8 =>
pCond v8 (
pIdxS s4.2.2.1 s4.1 1 fun v9 =>
pLoad1 h5 v9 fun v10 =>
pNil v10 fun v11 =>
pFieldA v11 1 fun v12 =>
pLoad1 h5 v12 fun v13 =>
pAppend h5 3 1 s4.2.2.2.1 v13 fun v14 h15 =>
pInt .add s4.1 (.int .i64 (.ofNat 1)) fun v16 =>
i7 (v16, s4.2.1, s4.2.2.1, v14, ()) h15 d6) (
pLeave d6 h5 fun h17 =>
some (s4.2.2.2.1, h17))) ((.int .i64 (.ofNat 0)), v3, v2, .nils, ()) h []
theorem S110_eq (c : CV) (a0 : AV) (h : AH) : enterK Tryz.prog NN P110 c 110 [a0] h = S110 c a0 h := by kernel_rfl
def W110 (c : CV) (l : List AV) (h : AH) : R := match l with | [a0] => S110 c a0 h | _ => none
theorem W110_ok : WOk Tryz.prog 110 W110 := by
  intro c l h r e
  unfold W110 at e
  split at e
  · exact ⟨P110, by rw [S110_eq]; exact e⟩
  · cases e
/- quietus/epoch.Passed -/
def P111 : Pl := (.n none .z (.n none (.n none .z (.n none (.n (some [9, 8, 7, 1]) (.n none .z (.n none .z (.n none (.n none (.n none .z (.n none (.r [[18, 15, 9, 8, 7, 1]]) .z)) .z) .z))) .z) .z)) .z))
def S111 (_ : CV) (a0 a1 : AV) (h : AH) : R :=
pLenS a0 fun v0 =>
loopC (σ := AV × AV × AV × AV × Unit) NN (fun i4 s1 h2 d3 =>
pInt .lss s1.1 s1.2.1 fun v5 =>
pCond v5 (
pIdxS s1.2.2.1 s1.1 1 fun v6 =>
pLoad1 h2 v6 fun v7 =>
pInt .neq v7 (.int .u64 (.ofNat 0)) fun v8 =>
joinC (α := AV × AV × AV × AV × AV × AV × Unit → AH → R) (fun s9 h10 =>
pPick s9.2.1 s9.1 (.bool false) fun v12 =>
pCond v12 (
pLeave d3 h10 fun h13 =>
some ((.bool false), h13)) (
pInt .add s9.2.2.1 (.int .i64 (.ofNat 1)) fun v14 =>
i4 (v14, s9.2.2.2.1, s9.2.2.2.2.1, s9.2.2.2.2.2.1, ()) h10 d3)) fun j11 =>
pWant v8 true (
pInt .leq v7 s1.2.2.2.1 fun v15 =>
j11 (v15, v8, s1.1, s1.2.1, s1.2.2.1, s1.2.2.2.1, ()) h2) (
j11 (.undef, v8, s1.1, s1.2.1, s1.2.2.1, s1.2.2.2.1, ()) h2)) (
pLeave d3 h2 fun h16 =>
some ((.bool true), h16))) ((.int .i64 (.ofNat 0)), v0, a0, a1, ()) h []
theorem S111_eq (c : CV) (a0 a1 : AV) (h : AH) : enterK Tryz.prog NN P111 c 111 [a0, a1] h = S111 c a0 a1 h := by kernel_rfl
def W111 (c : CV) (l : List AV) (h : AH) : R := match l with | [a0, a1] => S111 c a0 a1 h | _ => none
theorem W111_ok : WOk Tryz.prog 111 W111 := by
  intro c l h r e
  unfold W111 at e
  split at e
  · exact ⟨P111, by rw [S111_eq]; exact e⟩
  · cases e
/- quietus/lock.Is -/
def P112 : Pl := (.n none .z (.n none (.n none .z (.n none (.n none (.r [[11, 8]]) .z) .z)) (.n none (.r [[19, 16]]) .z)))
def S112 (c : CV) (a0 : AV) (h : AH) : R :=
pBox h 38 a0 fun v0 h1 =>
pFieldA v0 1 fun v2 =>
pLoad1 h1 v2 fun v3 =>
pCond v3 (
pFieldA v0 0 fun v4 =>
pLoad1 h1 v4 fun v5 =>
pInt .lss v5 (.int .u64 (.ofNat 4611686018427387904)) fun v6 =>
joinC (α := AV × AV × Unit → AH → R) (fun s7 h8 =>
pPick s7.2.1 s7.1 (.bool false) fun v10 =>
some (v10, h8)) fun j9 =>
pWant v6 true (
pFieldA v0 2 fun v11 =>
pLoad1 h1 v11 fun v12 =>
pCall c (.fn 142 [] []) [v12] h1 fun v13 h14 =>
j9 (v13, v6, ()) h14) (
j9 (.undef, v6, ()) h1)) (
pFieldA v0 0 fun v15 =>
pLoad1 h1 v15 fun v16 =>
pInt .lss v16 (.int .u64 (.ofNat 4611686018427387904)) fun v17 =>
joinC (α := AV × AV × Unit → AH → R) (fun s18 h19 =>
pPick s18.2.1 s18.1 (.bool false) fun v21 =>
some (v21, h19)) fun j20 =>
pWant v17 true (
pFieldA v0 2 fun v22 =>
pLoad1 h1 v22 fun v23 =>
pInt .eql v23 (.int .i64 (.ofNat 0)) fun v24 =>
j20 (v24, v17, ()) h1) (
j20 (.undef, v17, ()) h1))
theorem S112_eq (c : CV) (a0 : AV) (h : AH) : enterK Tryz.prog NN P112 c 112 [a0] h = S112 c a0 h := by kernel_rfl
def W112 (c : CV) (l : List AV) (h : AH) : R := match l with | [a0] => S112 c a0 h | _ => none
theorem W112_ok : WOk Tryz.prog 112 W112 := by
  intro c l h r e
  unfold W112 at e
  split at e
  · exact ⟨P112, by rw [S112_eq]; exact e⟩
  · cases e
/- quietus/view.New -/
def P113 : Pl := .z
def S113 (c : CV) (a0 a1 : AV) (h : AH) : R :=
pMM false [a0, (.int .i64 (.ofNat 256))] fun v0 =>
pMM true [(.int .i64 (.ofNat 32)), v0] fun v1 =>
pMake h 185 [(.int .u64 (.ofNat 0)), (.bool false)] v1 v1 fun v2 h3 =>
pCall c (.fn 143 [] []) [a1] h3 fun v4 h5 =>
pBuild [.nils, .nils, .nilp, (.int .i64 (.ofNat 0))] [(0, 1, v2), (2, 1, v4)] fun v6 =>
pBox h5 163 v6 fun v7 h8 =>
some (v7, h8)
theorem S113_eq (c : CV) (a0 a1 : AV) (h : AH) : enterK Tryz.prog NN P113 c 113 [a0, a1] h = S113 c a0 a1 h := by kernel_rfl
def W113 (c : CV) (l : List AV) (h : AH) : R := match l with | [a0, a1] => S113 c a0 a1 h | _ => none
theorem W113_ok : WOk Tryz.prog 113 W113 := by
  intro c l h r e
  unfold W113 at e
  split at e
  · exact ⟨P113, by rw [S113_eq]; exact e⟩
  · cases e
/- quietus/reads.New -/
def P114 : Pl := .z
def S114 (_ : CV) (a0 : AV) (h : AH) : R :=
pMM false [a0, (.int .i64 (.ofNat 16))] fun v0 =>
pMM true [(.int .i64 (.ofNat 1)), v0] fun v1 =>
pBuild [(.int .i64 (.ofNat 0)), .nils] [(0, 1, v1)] fun v2 =>
pBox h 171 v2 fun v3 h4 =>
some (v3, h4)
theorem S114_eq (c : CV) (a0 : AV) (h : AH) : enterK Tryz.prog NN P114 c 114 [a0] h = S114 c a0 h := by kernel_rfl
def W114 (c : CV) (l : List AV) (h : AH) : R := match l with | [a0] => S114 c a0 h | _ => none
theorem W114_ok : WOk Tryz.prog 114 W114 := by
  intro c l h r e
  unfold W114 at e
  split at e
  · exact ⟨P114, by rw [S114_eq]; exact e⟩
  · cases e
/- quietus/check.Run -/
def P115 : Pl := (.n none .z (.n none (.n none (.r [[16, 12, 1]]) .z) (.n none .z (.n none (.n none .z (.n none (.n (some [21, 20, 19, 4, 1]) .z .z) .z)) (.n none .z (.n none (.r [[3, 2]]) .z))))))
def S115 (c : CV) (a0 : AV) (h : AH) : R :=
pBox h 33 a0 fun v0 h1 =>
pFieldA v0 0 fun v2 =>
pLoad1 h1 v2 fun v3 =>
pLenS v3 fun v4 =>
pInt .eql v4 (.int .i64 (.ofNat 0)) fun v5 =>
joinC (α := AV × AV × AV × Unit → AH → R) (fun s6 h7 =>
pPick s6.2.1 (.bool true) s6.1 fun v9 =>
pCond v9 (
some ((.tup [(.int .i64 (.ofNat 0)), (.int .i64 (.ofNat 4))]), h7)) (
pFieldA s6.2.2.1 0 fun v10 =>
pLoad1 h7 v10 fun v11 =>
pLenS v11 fun v12 =>
loopC (σ := AV × AV × AV × AV × AV × Unit) NN (fun i16 s13 h14 d15 =>
pInt .lss s13.1 s13.2.1 fun v17 =>
pCond v17 (
pIdxS s13.2.2.1 s13.1 5 fun v18 =>
pLoadN h14 v18 5 fun v19 =>
pBox h14 30 (.agg [(.int .i64 (.ofNat 0)), (.int .i64 (.ofNat 0)), (.int .i64 (.ofNat 0)), (.int .i64 (.ofNat 0)), (.int .u64 (.ofNat 0))]) fun v20 h21 =>
pStore h21 v20 v19 5 fun h22 =>
pLoadN h22 s13.2.2.2.2.1 1 fun v23 =>
pLoadN h22 v20 5 fun v24 =>
pCall c (.fn 144 [] []) [v23, s13.2.2.2.1, v24] h22 fun v25 h26 =>
pInt .neq v25 (.int .i64 (.ofNat 0)) fun v27 =>
pCond v27 (
pLeave d15 h26 fun h28 =>
some ((.tup [s13.1, v25]), h28)) (
pFieldA v20 0 fun v29 =>
pLoad1 h26 v29 fun v30 =>
pCall c (.fn 145 [] []) [s13.2.2.2.1, s13.1, v30] h26 fun v31 h32 =>
pInt .add s13.1 (.int .i64 (.ofNat 1)) fun v33 =>
i16 (v33, s13.2.1, s13.2.2.1, v31, s13.2.2.2.2.1, ()) h32 d15)) (
pLenS s13.2.2.2.1 fun v34 =>
pInt .gtr v34 (.int .i64 (.ofNat 0)) fun v35 =>
pCond v35 (
pCall c (.fn 146 [] []) [s13.2.2.2.1] h14 fun v36 h37 =>
pLeave d15 h37 fun h38 =>
some ((.tup [v36, (.int .i64 (.ofNat 12))]), h38)) (
joinC (α := AV × AV × Unit → AH → R) (fun s39 h40 =>
pLeave d15 h40 fun h42 =>
some ((.tup [s39.2.1, s39.1]), h42)) fun j41 =>
pLoadN h14 s13.2.2.2.2.1 1 fun v43 =>
pLoadN h14 s13.2.2.2.2.1 1 fun v44 =>
pCall c (.fn 148 [] []) [v44] h14 fun v45 h46 =>
pCall c (.fn 147 [] []) [v43, v45] h46 fun v47 h48 =>
pExtract v47 0 fun v49 =>
pExtract v47 1 fun v50 =>
pChk s13.2.2.2.2.1 (some 1) v43 h14 h46 h14.nx <|
j41 (v50, v49, ()) h48))) ((.int .i64 (.ofNat 0)), v12, v11, .nils, s6.2.2.1, ()) h7 [])) fun j8 =>
pWant v5 false (
pFieldA v0 0 fun v51 =>
pLoad1 h1 v51 fun v52 =>
pLenS v52 fun v53 =>
pInt .gtr v53 (.int .i64 (.ofNat 40)) fun v54 =>
j8 (v54, v5, v0, ()) h1) (
j8 (.undef, v5, v0, ()) h1)
theorem S115_eq (c : CV) (a0 : AV) (h : AH) : enterK Tryz.prog NN P115 c 115 [a0] h = S115 c a0 h := by kernel_rfl
def W115 (c : CV) (l : List AV) (h : AH) : R := match l with | [a0] => S115 c a0 h | _ => none
theorem W115_ok : WOk Tryz.prog 115 W115 := by
  intro c l h r e
  unfold W115 at e
  split at e
  · exact ⟨P115, by rw [S115_eq]; exact e⟩
  · cases e
/- quietus/check.Match -/
def P116 : Pl := (.n none .z (.n none .z (.n none .z (.n none .z (.n none (.n none .z (.n none (.n (some [27, 26, 6, 5, 1]) .z .z) .z)) (.n none (.n none .z (.n none (.n (some [37, 36, 35, 6, 5, 1]) (.n none .z (.n none .z (.n none (.n (some [37, 36, 35, 6, 5, 1]) .z .z) .z))) .z) .z)) (.n none (.n none .z (.n none (.n (some [57, 56, 55, 6, 5]) (.n none .z (.n none .z (.n none (.n (some [57, 56, 55, 6, 5]) .z .z) .z))) .z) .z)) .z)))))))
def S116 (c : CV) (a0 : AV) (h : AH) : R :=
pBox h 33 a0 fun v0 h1 =>
pLoadN h1 v0 1 fun v2 =>
pCall c (.fn 115 [] []) [v2] h1 fun v3 h4 =>
pExtract v3 0 fun _ =>
pExtract v3 1 fun v6 =>
pInt .neq v6 (.int .i64 (.ofNat 0)) fun v7 =>
pCond v7 (
some (.nils, h4)) (
pLoadN h4 v0 1 fun v8 =>
pCall c (.fn 148 [] []) [v8] h4 fun v9 h10 =>
pFieldA v0 0 fun v11 =>
pLoad1 h10 v11 fun v12 =>
pLenS v12 fun v13 =>
pMake h10 3 [(.int .i64 (.ofNat 0))] v13 v13 fun v14 h15 =>
pLenS v14 fun v16 =>
loopC (σ := AV × AV × AV × AV × AV × Unit) NN (fun i20 s17 h18 d19 =>
pInt .lss s17.1 s17.2.1 fun v21 =>
pCond v21 (
pIdxS s17.2.2.1 s17.1 1 fun v22 =>
pStore h18 v22 (.int .i64 (.negSucc 0)) 1 fun h23 =>
pInt .add s17.1 (.int .i64 (.ofNat 1)) fun v24 =>
i20 (v24, s17.2.1, s17.2.2.1, s17.2.2.2.1, s17.2.2.2.2.1, ()) h23 d19) (
pFieldA s17.2.2.2.2.1 0 fun v25 =>
pLoad1 h18 v25 fun v26 =>
pLenS v26 fun v27 =>
loopC (σ := AV × AV × AV × AV × AV × AV × Unit) NN (fun i31 s28 h29 d30 =>
pInt .lss s28.1 s28.2.1 fun v32 =>
pCond v32 (
joinC (α := AV × AV × AV × AV × AV × AV × Unit → AH → List Nat → R) (fun s33 h34 d35 =>
pInt .add s33.1 (.int .i64 (.ofNat 1)) fun v37 =>
i31 (v37, s33.2.1, s33.2.2.1, s33.2.2.2.1, s33.2.2.2.2.1, s33.2.2.2.2.2.1, ()) h34 d35) fun j36 =>
pIdxS s28.2.2.1 s28.1 5 fun v38 =>
pLoadN h29 v38 5 fun v39 =>
pBox h29 30 (.agg [(.int .i64 (.ofNat 0)), (.int .i64 (.ofNat 0)), (.int .i64 (.ofNat 0)), (.int .i64 (.ofNat 0)), (.int .u64 (.ofNat 0))]) fun v40 h41 =>
pStore h41 v40 v39 5 fun h42 =>
pFieldA v40 0 fun v43 =>
pLoad1 h42 v43 fun v44 =>
pCall c (.fn 149 [] []) [v44] h42 fun v45 h46 =>
pInt .gtr v45 (.int .i64 (.ofNat 0)) fun v47 =>
pCond v47 (
pIdxS s28.2.2.2.2.1 s28.1 1 fun v48 =>
pLoad1 h46 v48 fun v49 =>
pIdxS s28.2.2.2.1 v49 1 fun v50 =>
pStore h46 v50 s28.1 1 fun h51 =>
j36 (s28.1, s28.2.1, s28.2.2.1, s28.2.2.2.1, s28.2.2.2.2.1, s28.2.2.2.2.2.1, ()) h51 d30) (
j36 (s28.1, s28.2.1, s28.2.2.1, s28.2.2.2.1, s28.2.2.2.2.1, s28.2.2.2.2.2.1, ()) h46 d30)) (
pFieldA s28.2.2.2.2.2.1 0 fun v52 =>
pLoad1 h29 v52 fun v53 =>
pLenS v53 fun v54 =>
loopC (σ := AV × AV × AV × AV × AV × Unit) NN (fun i58 s55 h56 d57 =>
pInt .lss s55.1 s55.2.1 fun v59 =>
pCond v59 (
joinC (α := AV × AV × AV × AV × AV × Unit → AH → List Nat → R) (fun s60 h61 d62 =>
pInt .add s60.1 (.int .i64 (.ofNat 1)) fun v64 =>
i58 (v64, s60.2.1, s60.2.2.1, s60.2.2.2.1, s60.2.2.2.2.1, ()) h61 d62) fun j63 =>
pIdxS s55.2.2.1 s55.1 5 fun v65 =>
pLoadN h56 v65 5 fun v66 =>
pBox h56 30 (.agg [(.int .i64 (.ofNat 0)), (.int .i64 (.ofNat 0)), (.int .i64 (.ofNat 0)), (.int .i64 (.ofNat 0)), (.int .u64 (.ofNat 0))]) fun v67 h68 =>
pStore h68 v67 v66 5 fun h69 =>
pFieldA v67 0 fun v70 =>
pLoad1 h69 v70 fun v71 =>
pInt .eql v71 (.int .i64 (.ofNat 16)) fun v72 =>
pCond v72 (
pIdxS s55.2.2.2.2.1 s55.1 1 fun v73 =>
pLoad1 h69 v73 fun v74 =>
pIdxS s55.2.2.2.1 v74 1 fun v75 =>
pLoad1 h69 v75 fun v76 =>
pIdxS s55.2.2.2.1 s55.1 1 fun v77 =>
pStore h69 v77 v76 1 fun h78 =>
j63 (s55.1, s55.2.1, s55.2.2.1, s55.2.2.2.1, s55.2.2.2.2.1, ()) h78 d57) (
j63 (s55.1, s55.2.1, s55.2.2.1, s55.2.2.2.1, s55.2.2.2.2.1, ()) h69 d57)) (
pLeave d57 h56 fun h79 =>
some (s55.2.2.2.1, h79))) ((.int .i64 (.ofNat 0)), v54, v53, s28.2.2.2.1, s28.2.2.2.2.1, ()) h29 d30)) ((.int .i64 (.ofNat 0)), v27, v26, s17.2.2.1, s17.2.2.2.1, s17.2.2.2.2.1, ()) h18 d19)) ((.int .i64 (.ofNat 0)), v16, v14, v9, v0, ()) h15 [])
theorem S116_eq (c : CV) (a0 : AV) (h : AH) : enterK Tryz.prog NN P116 c 116 [a0] h = S116 c a0 h := by kernel_rfl
def W116 (c : CV) (l : List AV) (h : AH) : R := match l with | [a0] => S116 c a0 h | _ => none
theorem W116_ok : WOk Tryz.prog 116 W116 := by
  intro c l h r e
  unfold W116 at e
  split at e
  · exact ⟨P116, by rw [S116_eq]; exact e⟩
  · cases e
/- quietus/slate.New -/
def P117 : Pl := .z
def S117 (_ : CV) (h : AH) : R :=
pBuild [.nils] [] fun v0 =>
pBox h 179 v0 fun v1 h2 =>
some (v1, h2)
theorem S117_eq (c : CV) (h : AH) : enterK Tryz.prog NN P117 c 117 [] h = S117 c h := by kernel_rfl
def W117 (c : CV) (l : List AV) (h : AH) : R := match l with | [] => S117 c h | _ => none
theorem W117_ok : WOk Tryz.prog 117 W117 := by
  intro c l h r e
  unfold W117 at e
  split at e
  · exact ⟨P117, by rw [S117_eq]; exact e⟩
  · cases e
/- (*quietus/interp.Interp).fail -/
def P118 : Pl := .z
def S118 (_ : CV) (a0 a1 : AV) (h : AH) : R :=
pNil a0 fun v0 =>
pFieldA v0 5 fun v1 =>
pStore h v1 (.int .i64 (.ofNat 4)) 1 fun h2 =>
pNil a0 fun v3 =>
pFieldA v3 4 fun v4 =>
pStore h2 v4 a1 1 fun h5 =>
some ((.tup []), h5)
theorem S118_eq (c : CV) (a0 a1 : AV) (h : AH) : enterK Tryz.prog NN P118 c 118 [a0, a1] h = S118 c a0 a1 h := by kernel_rfl
def W118 (c : CV) (l : List AV) (h : AH) : R := match l with | [a0, a1] => S118 c a0 a1 h | _ => none
theorem W118_ok : WOk Tryz.prog 118 W118 := by
  intro c l h r e
  unfold W118 at e
  split at e
  · exact ⟨P118, by rw [S118_eq]; exact e⟩
  · cases e
/- (*quietus/interp.Interp).do -/
def P119 : Pl := (.n none .z (.n none .z (.n none (.n none .z (.n (some []) (.n none .z (.n none .z (.n none .z (.n none .z (.n none .z (.n none .z (.n none .z (.n none .z (.n none .z (.n none .z (.n none .z (.n none .z (.n none .z (.n none .z (.n none .z (.n none .z (.n none .z (.n none .z (.n none .z (.n none .z (.n none .z (.n none .z (.n none .z (.n none .z (.n (some [120, 6, 5, 3, 0]) .z .z))))))))))))))))))))))))) .z)) .z)))
def S119 (c : CV) (a0 a1 : AV) (h : AH) : R :=
pBox h 30 a1 fun v0 h1 =>
pFieldA v0 1 fun v2 =>
pLoad1 h1 v2 fun v3 =>
pInt .rem v3 (.int .i64 (.ofNat 8)) fun v4 =>
pNil a0 fun v5 =>
pFieldA v5 6 fun v6 =>
pIdxP v6 v4 8 1 fun v7 =>
pFieldA v0 2 fun v8 =>
pLoad1 h1 v8 fun v9 =>
pInt .rem v9 (.int .i64 (.ofNat 8)) fun v10 =>
pNil a0 fun v11 =>
pFieldA v11 6 fun v12 =>
pIdxP v12 v10 8 1 fun v13 =>
pLoad1 h1 v13 fun v14 =>
pFieldA v0 3 fun v15 =>
pLoad1 h1 v15 fun v16 =>
pInt .rem v16 (.int .i64 (.ofNat 8)) fun v17 =>
pNil a0 fun v18 =>
pFieldA v18 6 fun v19 =>
pIdxP v19 v17 8 1 fun v20 =>
pLoad1 h1 v20 fun v21 =>
pFieldA v0 0 fun v22 =>
pLoad1 h1 v22 fun v23 =>
joinC (α := Unit → AH → List Nat → R) (fun _ h25 d26 =>
pLeave d26 h25 fun h28 =>
some ((.int .i64 (.ofNat 0)), h28)) fun j27 =>
pInt .eql v23 (.int .i64 (.ofNat 1)) fun v29 =>
pCond v29 (
pFieldA v0 4 fun v30 =>
pLoad1 h1 v30 fun v31 =>
pNil v7 fun v32 =>
pStore h1 v32 v31 1 fun h33 =>
j27 (()) h33 []) (
pInt .eql v23 (.int .i64 (.ofNat 2)) fun v34 =>
pCond v34 (
pNil v7 fun v35 =>
pStore h1 v35 v14 1 fun h36 =>
j27 (()) h36 []) (
pInt .eql v23 (.int .i64 (.ofNat 3)) fun v37 =>
pCond v37 (
pInt .add v14 v21 fun v38 =>
pNil v7 fun v39 =>
pStore h1 v39 v38 1 fun h40 =>
j27 (()) h40 []) (
pInt .eql v23 (.int .i64 (.ofNat 4)) fun v41 =>
pCond v41 (
pInt .sub v14 v21 fun v42 =>
pNil v7 fun v43 =>
pStore h1 v43 v42 1 fun h44 =>
j27 (()) h44 []) (
pInt .eql v23 (.int .i64 (.ofNat 5)) fun v45 =>
pCond v45 (
pInt .mul v14 v21 fun v46 =>
pNil v7 fun v47 =>
pStore h1 v47 v46 1 fun h48 =>
j27 (()) h48 []) (
pInt .eql v23 (.int .i64 (.ofNat 6)) fun v49 =>
pCond v49 (
pInt .lss v14 v21 fun v50 =>
pCall c (.fn 150 [] []) [v50] h1 fun v51 h52 =>
pNil v7 fun v53 =>
pStore h52 v53 v51 1 fun h54 =>
j27 (()) h54 []) (
pInt .eql v23 (.int .i64 (.ofNat 7)) fun v55 =>
pCond v55 (
pInt .eql v14 v21 fun v56 =>
pCall c (.fn 150 [] []) [v56] h1 fun v57 h58 =>
pNil v7 fun v59 =>
pStore h58 v59 v57 1 fun h60 =>
j27 (()) h60 []) (
pInt .eql v23 (.int .i64 (.ofNat 12)) fun v61 =>
pCond v61 (
pFieldA v0 3 fun v62 =>
pLoad1 h1 v62 fun v63 =>
pNil a0 fun v64 =>
pFieldA v64 16 fun v65 =>
pStore h1 v65 v63 1 fun h66 =>
j27 (()) h66 []) (
pInt .eql v23 (.int .i64 (.ofNat 13)) fun v67 =>
pCond v67 (
pNil v7 fun v68 =>
pLoad1 h1 v68 fun v69 =>
pInt .eql v69 (.int .u64 (.ofNat 0)) fun v70 =>
pCond v70 (
pFieldA v0 3 fun v71 =>
pLoad1 h1 v71 fun v72 =>
pNil a0 fun v73 =>
pFieldA v73 16 fun v74 =>
pStore h1 v74 v72 1 fun h75 =>
j27 (()) h75 []) (
j27 (()) h1 [])) (
pInt .eql v23 (.int .i64 (.ofNat 21)) fun v76 =>
pCond v76 (
pNil a0 fun v77 =>
pFieldA v77 14 fun v78 =>
pLoad1 h1 v78 fun v79 =>
pNil v7 fun v80 =>
pLoad1 h1 v80 fun v81 =>
pCall c (.fn 151 [] []) [v79, v81] h1 fun v82 h83 =>
pUn .not v82 fun v84 =>
pCond v84 (
some ((.int .i64 (.ofNat 5)), h83)) (
j27 (()) h83 [])) (
pInt .eql v23 (.int .i64 (.ofNat 22)) fun v85 =>
pCond v85 (
some ((.int .i64 (.ofNat 13)), h1)) (
pInt .eql v23 (.int .i64 (.ofNat 23)) fun v86 =>
pCond v86 (
pLoadN h1 v0 5 fun v87 =>
pCall c (.fn 152 [] []) [a0, v87] h1 fun v88 h89 =>
some (v88, h89)) (
joinC (α := AV × AV × AV × AV × AV × Unit → AH → List Nat → R) (fun s90 h91 d92 =>
pCond s90.1 (
pLoadN h91 s90.2.2.2.1 5 fun v94 =>
pCall c (.fn 153 [] []) [s90.2.2.2.2.1, v94, s90.2.2.1, s90.2.1] h91 fun v95 h96 =>
pLeave d92 h96 fun h97 =>
some (v95, h97)) (
pLoadN h91 s90.2.2.2.1 5 fun v98 =>
pCall c (.fn 154 [] []) [s90.2.2.2.2.1, v98] h91 fun v99 h100 =>
pLeave d92 h100 fun h101 =>
some (v99, h101))) fun j93 =>
pInt .eql v23 (.int .i64 (.ofNat 8)) fun v102 =>
pCond v102 (
j93 (v102, v14, v7, v0, a0, ()) h1 []) (
pInt .eql v23 (.int .i64 (.ofNat 9)) fun v103 =>
pCond v103 (
j93 (v103, v14, v7, v0, a0, ()) h1 []) (
pInt .eql v23 (.int .i64 (.ofNat 10)) fun v104 =>
pCond v104 (
j93 (v104, v14, v7, v0, a0, ()) h1 []) (
pInt .eql v23 (.int .i64 (.ofNat 11)) fun v105 =>
j93 (v105, v14, v7, v0, a0, ()) h1 [])))))))))))))))
theorem S119_eq (c : CV) (a0 a1 : AV) (h : AH) : enterK Tryz.prog NN P119 c 119 [a0, a1] h = S119 c a0 a1 h := by kernel_rfl
def W119 (c : CV) (l : List AV) (h : AH) : R := match l with | [a0, a1] => S119 c a0 a1 h | _ => none
theorem W119_ok : WOk Tryz.prog 119 W119 := by
  intro c l h r e
  unfold W119 at e
  split at e
  · exact ⟨P119, by rw [S119_eq]; exact e⟩
  · cases e
/- quietus/arena.asked -/
def P120 : Pl := (.n none .z (.n none (.n none (.r [[17, 13, 1, 0]]) .z) .z))
def S120 (c : CV) (a0 a1 : AV) (h : AH) : R :=
pInt .leq a1 (.int .i64 (.ofNat 14)) fun v0 =>
joinC (α := AV × AV × AV × AV × Unit → AH → R) (fun s1 h2 =>
pPick s1.2.1 (.bool true) s1.1 fun v4 =>
pCond v4 (
some ((.tup [(.int .i64 (.ofNat 0)), (.bool false), (.int .i64 (.ofNat 2))]), h2)) (
pInt .sub s1.2.2.1 (.int .i64 (.ofNat 1)) fun v5 =>
pCall c (.fn 121 [] []) [s1.2.2.2.1, v5] h2 fun v6 h7 =>
pExtract v6 0 fun v8 =>
pExtract v6 1 fun v9 =>
pInt .neq v9 (.int .i64 (.ofNat 0)) fun v10 =>
pCond v10 (
some ((.tup [(.int .i64 (.ofNat 0)), (.bool false), v9]), h7)) (
pCall c (.fn 156 [] []) [v8] h7 fun v11 h12 =>
pExtract v11 0 fun v13 =>
pExtract v11 1 fun v14 =>
pInt .eql v13 (.int .i64 (.ofNat 0)) fun v15 =>
pCond v15 (
some ((.tup [(.int .i64 (.ofNat 0)), (.bool false), (.int .i64 (.ofNat 2))]), h12)) (
some ((.tup [v13, v14, (.int .i64 (.ofNat 0))]), h12))))) fun j3 =>
pWant v0 false (
pCall c (.fn 155 [] []) [a0] h fun v16 h17 =>
pInt .geq a1 v16 fun v18 =>
j3 (v18, v0, a1, a0, ()) h17) (
j3 (.undef, v0, a1, a0, ()) h)
theorem S120_eq (c : CV) (a0 a1 : AV) (h : AH) : enterK Tryz.prog NN P120 c 120 [a0, a1] h = S120 c a0 a1 h := by kernel_rfl
def W120 (c : CV) (l : List AV) (h : AH) : R := match l with | [a0, a1] => S120 c a0 a1 h | _ => none
theorem W120_ok : WOk Tryz.prog 120 W120 := by
  intro c l h r e
  unfold W120 at e
  split at e
  · exact ⟨P120, by rw [S120_eq]; exact e⟩
  · cases e
/- (*quietus/view.View).Read -/
def P121 : Pl := .z
def S121 (c : CV) (a0 a1 : AV) (h : AH) : R :=
pCall c (.fn 157 [] []) [a0, a1] h fun v0 h1 =>
pUn .not v0 fun v2 =>
pCond v2 (
some ((.tup [(.int .u64 (.ofNat 0)), (.int .i64 (.ofNat 2))]), h1)) (
pNil a0 fun v3 =>
pFieldA v3 2 fun v4 =>
pLoad1 h1 v4 fun v5 =>
pCall c (.fn 158 [] []) [v5, a1] h1 fun v6 h7 =>
pExtract v6 0 fun v8 =>
pExtract v6 1 fun v9 =>
pCond v9 (
some ((.tup [v8, (.int .i64 (.ofNat 0))]), h7)) (
pNil a0 fun v10 =>
pFieldA v10 0 fun v11 =>
pLoad1 h7 v11 fun v12 =>
pIdxS v12 a1 2 fun v13 =>
pLoadN h7 v13 2 fun v14 =>
pBox h7 185 (.agg [(.int .u64 (.ofNat 0)), (.bool false)]) fun v15 h16 =>
pStore h16 v15 v14 2 fun h17 =>
pFieldA v15 1 fun v18 =>
pLoad1 h17 v18 fun v19 =>
pCond v19 (
pFieldA v15 0 fun v20 =>
pLoad1 h17 v20 fun v21 =>
some ((.tup [v21, (.int .i64 (.ofNat 0))]), h17)) (
pNil a0 fun v22 =>
pFieldA v22 3 fun v23 =>
pStore h17 v23 a1 1 fun h24 =>
some ((.tup [(.int .u64 (.ofNat 0)), (.int .i64 (.ofNat 11))]), h24))))
theorem S121_eq (c : CV) (a0 a1 : AV) (h : AH) : enterK Tryz.prog NN P121 c 121 [a0, a1] h = S121 c a0 a1 h := by kernel_rfl
def W121 (c : CV) (l : List AV) (h : AH) : R := match l with | [a0, a1] => S121 c a0 a1 h | _ => none
theorem W121_ok : WOk Tryz.prog 121 W121 := by
  intro c l h r e
  unfold W121 at e
  split at e
  · exact ⟨P121, by rw [S121_eq]; exact e⟩
  · cases e
/- quietus/arena.head -/
def P122 : Pl := .z
def S122 (_ : CV) (a0 : AV) (h : AH) : R :=
pInt .add (.int .i64 (.ofNat 0)) a0 fun v0 =>
some (v0, h)
theorem S122_eq (c : CV) (a0 : AV) (h : AH) : enterK Tryz.prog NN P122 c 122 [a0] h = S122 c a0 h := by kernel_rfl
def W122 (c : CV) (l : List AV) (h : AH) : R := match l with | [a0] => S122 c a0 h | _ => none
theorem W122_ok : WOk Tryz.prog 122 W122 := by
  intro c l h r e
  unfold W122 at e
  split at e
  · exact ⟨P122, by rw [S122_eq]; exact e⟩
  · cases e
/- (*quietus/view.View).Take -/
def P123 : Pl := (.n none .z (.n none (.n none .z (.n none (.n (some [9, 8, 7, 1, 0]) .z .z) .z)) .z))
def S123 (c : CV) (a0 a1 : AV) (h : AH) : R :=
pLenS a1 fun v0 =>
loopC (σ := AV × AV × AV × AV × AV × Unit) NN (fun i4 s1 h2 d3 =>
pInt .lss s1.1 s1.2.1 fun v5 =>
pCond v5 (
pIdxS s1.2.2.1 s1.1 2 fun v6 =>
pLoadN h2 v6 2 fun v7 =>
pBox h2 133 (.agg [(.int .i64 (.ofNat 0)), (.int .u64 (.ofNat 0))]) fun v8 h9 =>
pStore h9 v8 v7 2 fun h10 =>
pFieldA v8 0 fun v11 =>
pLoad1 h10 v11 fun v12 =>
pCall c (.fn 157 [] []) [s1.2.2.2.2.1, v12] h10 fun v13 h14 =>
pUn .not v13 fun v15 =>
pCond v15 (
pLeave d3 h14 fun h16 =>
some ((.int .i64 (.ofNat 2)), h16)) (
pInt .add s1.1 (.int .i64 (.ofNat 1)) fun v17 =>
i4 (v17, s1.2.1, s1.2.2.1, s1.2.2.2.1, s1.2.2.2.2.1, ()) h14 d3)) (
pNil s1.2.2.2.2.1 fun v18 =>
pFieldA v18 2 fun v19 =>
pLoad1 h2 v19 fun v20 =>
pCall c (.fn 159 [] []) [v20, s1.2.2.2.1] h2 fun v21 h22 =>
pLeave d3 h22 fun h23 =>
some (v21, h23))) ((.int .i64 (.ofNat 0)), v0, a1, a1, a0, ()) h []
theorem S123_eq (c : CV) (a0 a1 : AV) (h : AH) : enterK Tryz.prog NN P123 c 123 [a0, a1] h = S123 c a0 a1 h := by kernel_rfl
def W123 (c : CV) (l : List AV) (h : AH) : R := match l with | [a0, a1] => S123 c a0 a1 h | _ => none
theorem W123_ok : WOk Tryz.prog 123 W123 := by
  intro c l h r e
  unfold W123 at e
  split at e
  · exact ⟨P123, by rw [S123_eq]; exact e⟩
  · cases e
/- slices.Backward[[]*quietus/levels.level,*quietus/levels.level] -/
def P124 : Pl := .z
def S124 (_ : CV) (a0 : AV) (h : AH) : R :=
pBox h 204 a0 fun v0 h1 =>
some ((.fn 160 [] [v0]), h1)
theorem S124_eq (c : CV) (a0 : AV) (h : AH) : enterK Tryz.prog NN P124 c 124 [a0] h = S124 c a0 h := by kernel_rfl
def W124 (c : CV) (l : List AV) (h : AH) : R := match l with | [a0] => S124 c a0 h | _ => none
theorem W124_ok : WOk Tryz.prog 124 W124 := by
  intro c l h r e
  unfold W124 at e
  split at e
  · exact ⟨P124, by rw [S124_eq]; exact e⟩
  · cases e
/- quietus/writes.New -/
def P125 : Pl := .z
def S125 (_ : CV) (a0 : AV) (h : AH) : R :=
pMM false [a0, (.int .i64 (.ofNat 96))] fun v0 =>
pMM true [(.int .i64 (.ofNat 0)), v0] fun v1 =>
pBuild [(.int .i64 (.ofNat 0)), .nils] [(0, 1, v1)] fun v2 =>
pBox h 239 v2 fun v3 h4 =>
some (v3, h4)
theorem S125_eq (c : CV) (a0 : AV) (h : AH) : enterK Tryz.prog NN P125 c 125 [a0] h = S125 c a0 h := by kernel_rfl
def W125 (c : CV) (l : List AV) (h : AH) : R := match l with | [a0] => S125 c a0 h | _ => none
theorem W125_ok : WOk Tryz.prog 125 W125 := by
  intro c l h r e
  unfold W125 at e
  split at e
  · exact ⟨P125, by rw [S125_eq]; exact e⟩
  · cases e
/- (*quietus/writes.Writes).Take -/
def P126 : Pl := (.n none .z (.n none .z (.n none (.n none .z (.n none (.n (some [13, 12, 11, 5, 0]) .z .z) .z)) .z)))
def S126 (c : CV) (a0 a1 : AV) (h : AH) : R :=
pCall c (.fn 127 [] []) [a0] h fun v0 h1 =>
pLenS a1 fun v2 =>
loopC (σ := AV × AV × AV × AV × AV × Unit) NN (fun i6 s3 h4 d5 =>
pInt .lss s3.1 s3.2.1 fun v7 =>
pCond v7 (
pIdxS s3.2.2.1 s3.1 2 fun v8 =>
pLoadN h4 v8 2 fun v9 =>
pBox h4 133 (.agg [(.int .i64 (.ofNat 0)), (.int .u64 (.ofNat 0))]) fun v10 h11 =>
pStore h11 v10 v9 2 fun h12 =>
pFieldA v10 0 fun v13 =>
pLoad1 h12 v13 fun v14 =>
pFieldA v10 1 fun v15 =>
pLoad1 h12 v15 fun v16 =>
pCall c (.fn 161 [] []) [s3.2.2.2.2.1, v14, v16] h12 fun v17 h18 =>
pInt .neq v17 (.int .i64 (.ofNat 0)) fun v19 =>
pCond v19 (
pNil s3.2.2.2.2.1 fun v20 =>
pFieldA v20 1 fun v21 =>
pStore h18 v21 s3.2.2.2.1 1 fun h22 =>
pLeave d5 h22 fun h23 =>
some (v17, h23)) (
pInt .add s3.1 (.int .i64 (.ofNat 1)) fun v24 =>
i6 (v24, s3.2.1, s3.2.2.1, s3.2.2.2.1, s3.2.2.2.2.1, ()) h18 d5)) (
pLeave d5 h4 fun h25 =>
some ((.int .i64 (.ofNat 0)), h25))) ((.int .i64 (.ofNat 0)), v2, a1, v0, a0, ()) h1 []
theorem S126_eq (c : CV) (a0 a1 : AV) (h : AH) : enterK Tryz.prog NN P126 c 126 [a0, a1] h = S126 c a0 a1 h := by kernel_rfl
def W126 (c : CV) (l : List AV) (h : AH) : R := match l with | [a0, a1] => S126 c a0 a1 h | _ => none
theorem W126_ok : WOk Tryz.prog 126 W126 := by
  intro c l h r e
  unfold W126 at e
  split at e
  · exact ⟨P126, by rw [S126_eq]; exact e⟩
  · cases e
/- (*quietus/writes.Writes).All -/
def P127 : Pl := .z
def S127 (c : CV) (a0 : AV) (h : AH) : R :=
pNil a0 fun v0 =>
pFieldA v0 1 fun v1 =>
pLoad1 h v1 fun v2 =>
pCall c (.fn 60 [] []) [v2] h fun v3 h4 =>
some (v3, h4)
theorem S127_eq (c : CV) (a0 : AV) (h : AH) : enterK Tryz.prog NN P127 c 127 [a0] h = S127 c a0 h := by kernel_rfl
def W127 (c : CV) (l : List AV) (h : AH) : R := match l with | [a0] => S127 c a0 h | _ => none
theorem W127_ok : WOk Tryz.prog 127 W127 := by
  intro c l h r e
  unfold W127 at e
  split at e
  · exact ⟨P127, by rw [S127_eq]; exact e⟩
  · cases e
/- slices.Sort[[]int,int] -/
def P128 : Pl := .z
def S128 (c : CV) (a0 : AV) (h : AH) : R :=
pLenS a0 fun v0 =>
pConvI .u64 v0 fun v1 =>
pCall c (.fn 163 [] []) [v1] h fun v2 h3 =>
pCall c (.fn 162 [] []) [a0, (.int .i64 (.ofNat 0)), v0, v2] h3 fun _ h5 =>
some ((.tup []), h5)
theorem S128_eq (c : CV) (a0 : AV) (h : AH) : enterK Tryz.prog NN P128 c 128 [a0] h = S128 c a0 h := by kernel_rfl
def W128 (c : CV) (l : List AV) (h : AH) : R := match l with | [a0] => S128 c a0 h | _ => none
theorem W128_ok : WOk Tryz.prog 128 W128 := by
  intro c l h r e
  unfold W128 at e
  split at e
  · exact ⟨P128, by rw [S128_eq]; exact e⟩
  · cases e
end
end Go.Proofs.YtlkmghghgmagaaaGreatDoor
