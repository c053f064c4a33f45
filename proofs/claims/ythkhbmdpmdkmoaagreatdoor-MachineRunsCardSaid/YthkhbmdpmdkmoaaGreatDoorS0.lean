/- Printed by a program of mine: the bodies of the program's functions aa terms of the primitives of the abstract executor, each shown equal by the kernel. -/
import Derived.Test.YthkhbmdpmdkmoaaGreatDoorProg
import Derived.Test.YthkhbmdpmdkmoaaGreatDoorAe1
import Derived.KernelRfl
namespace Go.Proofs.YthkhbmdpmdkmoaaGreatDoor
open Go Go.Ae
set_option maxRecDepth 100000
noncomputable section
/- quietus/quietuslaw28.MachineRuns -/
def P3 : Pl := (.n none .z (.n none .z (.n none .z (.n none .z (.n none .z (.n none (.n none .z (.n none (.n (some [4, 3]) .z .z) .z)) (.n none .z (.n none (.r [[37, 34, 6, 5, 3], [43, 39, 6, 5, 3], [49, 45, 6, 3], [54, 51, 6, 3], [59, 56, 6, 3], [66, 61, 3], [71, 68, 3], [76, 73, 3], [81, 78, 3], [85, 83, 3], [90, 87, 3], [96, 92, 3], [102, 98, 3], [108, 104, 3], [114, 110, 3], [121, 116]]) .z))))))))
def S3 (c : CV) (h : AH) : R :=
pBuild [(.int .i64 (.ofNat 0)), (.int .i64 (.ofNat 0)), (.int .i64 (.ofNat 0)), (.int .i64 (.ofNat 0)), (.int .u64 (.ofNat 0))] [(0, 1, (.int .i64 (.ofNat 40))), (1, 1, (.int .i64 (.ofNat 4)))] fun v0 =>
pBuild [(.int .i64 (.ofNat 0)), (.int .i64 (.ofNat 0)), (.int .i64 (.ofNat 0)), (.int .i64 (.ofNat 0)), (.int .u64 (.ofNat 0)), (.int .i64 (.ofNat 0)), (.int .i64 (.ofNat 0)), (.int .i64 (.ofNat 0))] [(0, 5, v0), (6, 1, (.int .i64 (.ofNat 9))), (7, 1, (.int .i64 (.ofNat 9)))] fun v1 =>
pBox h 26 (.agg [(.int .i64 (.ofNat 0)), (.int .i64 (.ofNat 0)), (.int .i64 (.ofNat 0)), (.int .i64 (.ofNat 0)), (.int .u64 (.ofNat 0)), (.int .i64 (.ofNat 0)), (.int .i64 (.ofNat 0)), (.int .i64 (.ofNat 0))]) fun v2 h3 =>
pStore h3 v2 v1 8 fun h4 =>
pBuild [(.int .i64 (.ofNat 0)), (.int .i64 (.ofNat 0)), (.int .i64 (.ofNat 0)), (.int .i64 (.ofNat 0)), (.int .u64 (.ofNat 0))] [(0, 1, (.int .i64 (.ofNat 1))), (1, 1, (.int .i64 (.ofNat 1))), (4, 1, (.int .u64 (.ofNat 7)))] fun v5 =>
pBuild [(.int .i64 (.ofNat 0)), (.int .i64 (.ofNat 0)), (.int .i64 (.ofNat 0)), (.int .i64 (.ofNat 0)), (.int .u64 (.ofNat 0))] [(0, 1, (.int .i64 (.ofNat 9))), (1, 1, (.int .i64 (.ofNat 0))), (2, 1, (.int .i64 (.ofNat 1))), (3, 1, (.int .i64 (.ofNat 6)))] fun v6 =>
pBuildS h4 28 [(.int .i64 (.ofNat 0)), (.int .i64 (.ofNat 0)), (.int .i64 (.ofNat 0)), (.int .i64 (.ofNat 0)), (.int .u64 (.ofNat 0))] 2 [(0, 5, v5), (5, 5, v6)] fun v7 h8 =>
pBuild [.nils] [(0, 1, v7)] fun v9 =>
pBox h8 31 (.agg [.nils]) fun v10 h11 =>
pStore h11 v10 v9 1 fun h12 =>
pLoadN h12 v2 8 fun v13 =>
pLoadN h12 v10 1 fun v14 =>
pBuildS h12 31 [.nils] 1 [(0, 1, v14)] fun v15 h16 =>
pBuildS h16 34 [.nils] 1 [(0, 1, v15)] fun v17 h18 =>
pCall c (.fn 4 [] []) [v13, v17] h18 fun v19 h20 =>
pEq .ptr false v19 .nilp fun v21 =>
pCond v21 (
some ((.bool false), h20)) (
loopC (σ := AV × AV × Unit) NN (fun i25 s22 h23 d24 =>
pInt .lss s22.1 (.int .i64 (.ofNat 12)) fun v26 =>
pCond v26 (
pCall c (.fn 5 [] []) [s22.2.1, (.int .i64 (.ofNat 0)), (.int .u8 (.ofNat 0))] h23 fun v27 h28 =>
pInt .neq v27 (.int .i64 (.ofNat 0)) fun v29 =>
pCond v29 (
pLeave d24 h28 fun h30 =>
some ((.bool false), h30)) (
pInt .add s22.1 (.int .i64 (.ofNat 1)) fun v31 =>
i25 (v31, s22.2.1, ()) h28 d24)) (
pCall c (.fn 6 [] []) [s22.2.1] h23 fun v32 h33 =>
pCall c (.fn 7 [] []) [s22.2.1, (.int .i64 (.ofNat 0))] h33 fun v34 h35 =>
pCall c (.fn 5 [] []) [s22.2.1, (.int .i64 (.ofNat 1)), (.int .u8 (.ofNat 0))] h35 fun v36 h37 =>
pInt .eql v36 (.int .i64 (.ofNat 1)) fun v38 =>
joinC (α := AV × AV × AV × AV × AV × Unit → AH → R) (fun s39 h40 =>
pPick s39.2.1 s39.1 (.bool false) fun v42 =>
joinC (α := AV × AV × AV × AV × AV × Unit → AH → R) (fun s43 h44 =>
pPick s43.2.1 s43.1 (.bool false) fun v46 =>
joinC (α := AV × AV × AV × AV × Unit → AH → R) (fun s47 h48 =>
pPick s47.2.1 s47.1 (.bool false) fun v50 =>
joinC (α := AV × AV × AV × AV × Unit → AH → R) (fun s51 h52 =>
pPick s51.2.1 s51.1 (.bool false) fun v54 =>
joinC (α := AV × AV × AV × AV × Unit → AH → R) (fun s55 h56 =>
pPick s55.2.1 s55.1 (.bool false) fun v58 =>
joinC (α := AV × AV × AV × Unit → AH → R) (fun s59 h60 =>
pPick s59.2.1 s59.1 (.bool false) fun v62 =>
joinC (α := AV × AV × AV × Unit → AH → R) (fun s63 h64 =>
pPick s63.2.1 s63.1 (.bool false) fun v66 =>
joinC (α := AV × AV × AV × Unit → AH → R) (fun s67 h68 =>
pPick s67.2.1 s67.1 (.bool false) fun v70 =>
joinC (α := AV × AV × AV × Unit → AH → R) (fun s71 h72 =>
pPick s71.2.1 s71.1 (.bool false) fun v74 =>
joinC (α := AV × AV × AV × Unit → AH → R) (fun s75 h76 =>
pPick s75.2.1 s75.1 (.bool false) fun v78 =>
joinC (α := AV × AV × AV × Unit → AH → R) (fun s79 h80 =>
pPick s79.2.1 s79.1 (.bool false) fun v82 =>
joinC (α := AV × AV × AV × Unit → AH → R) (fun s83 h84 =>
pPick s83.2.1 s83.1 (.bool false) fun v86 =>
joinC (α := AV × AV × AV × Unit → AH → R) (fun s87 h88 =>
pPick s87.2.1 s87.1 (.bool false) fun v90 =>
joinC (α := AV × AV × AV × Unit → AH → R) (fun s91 h92 =>
pPick s91.2.1 s91.1 (.bool false) fun v94 =>
joinC (α := AV × AV × AV × Unit → AH → R) (fun s95 h96 =>
pPick s95.2.1 s95.1 (.bool false) fun v98 =>
joinC (α := AV × AV × Unit → AH → R) (fun s99 h100 =>
pPick s99.2.1 s99.1 (.bool false) fun v102 =>
pLeave d24 h100 fun h103 =>
some (v102, h103)) fun j101 =>
pWant v98 true (
pCall c (.fn 18 [] []) [s95.2.2.1] h96 fun v104 h105 =>
pPartN v104 0 5 fun v106 =>
pPart1 v106 3 fun v107 =>
pInt .eql v107 (.int .i64 (.ofNat 1)) fun v108 =>
j101 (v108, v98, ()) h105) (
j101 (.undef, v98, ()) h96)) fun j97 =>
pWant v94 true (
pCall c (.fn 17 [] []) [s91.2.2.1, (.int .i64 (.ofNat 0))] h92 fun v109 h110 =>
pLenS v109 fun v111 =>
pInt .eql v111 (.int .i64 (.ofNat 0)) fun v112 =>
j97 (v112, v94, s91.2.2.1, ()) h110) (
j97 (.undef, v94, s91.2.2.1, ()) h92)) fun j93 =>
pWant v90 true (
pCall c (.fn 16 [] []) [s87.2.2.1] h88 fun v113 h114 =>
pLenS v113 fun v115 =>
pInt .eql v115 (.int .i64 (.ofNat 1)) fun v116 =>
j93 (v116, v90, s87.2.2.1, ()) h114) (
j93 (.undef, v90, s87.2.2.1, ()) h88)) fun j89 =>
pWant v86 true (
pCall c (.fn 15 [] []) [s83.2.2.1] h84 fun v117 h118 =>
pLenS v117 fun v119 =>
pInt .eql v119 (.int .i64 (.ofNat 4)) fun v120 =>
j89 (v120, v86, s83.2.2.1, ()) h118) (
j89 (.undef, v86, s83.2.2.1, ()) h84)) fun j85 =>
pWant v82 true (
pCall c (.fn 14 [] []) [s79.2.2.1] h80 fun v121 h122 =>
pLenS v121 fun v123 =>
pInt .eql v123 (.int .i64 (.ofNat 1)) fun v124 =>
j85 (v124, v82, s79.2.2.1, ()) h122) (
j85 (.undef, v82, s79.2.2.1, ()) h80)) fun j81 =>
pWant v78 true (
pCall c (.fn 13 [] []) [s75.2.2.1] h76 fun v125 h126 =>
pUn .not v125 fun v127 =>
j81 (v127, v78, s75.2.2.1, ()) h126) (
j81 (.undef, v78, s75.2.2.1, ()) h76)) fun j77 =>
pWant v74 true (
pCall c (.fn 12 [] []) [s71.2.2.1] h72 fun v128 h129 =>
j77 (v128, v74, s71.2.2.1, ()) h129) (
j77 (.undef, v74, s71.2.2.1, ()) h72)) fun j73 =>
pWant v70 true (
pCall c (.fn 11 [] []) [s67.2.2.1] h68 fun v130 h131 =>
pInt .eql v130 (.int .i64 (.ofNat 1)) fun v132 =>
j73 (v132, v70, s67.2.2.1, ()) h131) (
j73 (.undef, v70, s67.2.2.1, ()) h68)) fun j69 =>
pWant v66 true (
pCall c (.fn 10 [] []) [s63.2.2.1] h64 fun v133 h134 =>
pInt .eql v133 (.int .i64 (.ofNat 12)) fun v135 =>
j69 (v135, v66, s63.2.2.1, ()) h134) (
j69 (.undef, v66, s63.2.2.1, ()) h64)) fun j65 =>
pWant v62 true (
pCall c (.fn 9 [] []) [s59.2.2.1] h60 fun v136 h137 =>
pInt .eql v136 (.int .u64 (.ofNat 1)) fun v138 =>
j65 (v138, v62, s59.2.2.1, ()) h137) (
j65 (.undef, v62, s59.2.2.1, ()) h60)) fun j61 =>
pWant v58 true (
pIdxS s55.2.2.1 (.int .i64 (.ofNat 0)) 4 fun v139 =>
pFieldA v139 3 fun v140 =>
pLoad1 h56 v140 fun v141 =>
pInt .eql v141 (.int .u64 (.ofNat 1)) fun v142 =>
j61 (v142, v58, s55.2.2.2.1, ()) h56) (
j61 (.undef, v58, s55.2.2.2.1, ()) h56)) fun j57 =>
pWant v54 true (
pLenS s51.2.2.1 fun v143 =>
pInt .eql v143 (.int .i64 (.ofNat 1)) fun v144 =>
j57 (v144, v54, s51.2.2.1, s51.2.2.2.1, ()) h52) (
j57 (.undef, v54, s51.2.2.1, s51.2.2.2.1, ()) h52)) fun j53 =>
pWant v50 true (
pCall c (.fn 8 [] []) [s47.2.2.2.1, (.int .i64 (.ofNat 0))] h48 fun v145 h146 =>
pInt .eql v145 (.int .i64 (.ofNat 6)) fun v147 =>
j53 (v147, v50, s47.2.2.1, s47.2.2.2.1, ()) h146) (
j53 (.undef, v50, s47.2.2.1, s47.2.2.2.1, ()) h48)) fun j49 =>
pWant v46 true (
pIdxS s43.2.2.2.1 (.int .i64 (.ofNat 5)) 1 fun v148 =>
pLoad1 h44 v148 fun v149 =>
pInt .eql v149 (.int .u64 (.ofNat 14)) fun v150 =>
j49 (v150, v46, s43.2.2.1, s43.2.2.2.2.1, ()) h44) (
j49 (.undef, v46, s43.2.2.1, s43.2.2.2.2.1, ()) h44)) fun j45 =>
pWant v42 true (
pIdxS s39.2.2.2.1 (.int .i64 (.ofNat 6)) 1 fun v151 =>
pLoad1 h40 v151 fun v152 =>
pInt .eql v152 (.int .u64 (.ofNat 7)) fun v153 =>
j45 (v153, v42, s39.2.2.1, s39.2.2.2.1, s39.2.2.2.2.1, ()) h40) (
j45 (.undef, v42, s39.2.2.1, s39.2.2.2.1, s39.2.2.2.2.1, ()) h40)) fun j41 =>
pWant v38 true (
pLenS v32 fun v154 =>
pInt .eql v154 (.int .i64 (.ofNat 40)) fun v155 =>
j41 (v155, v38, v34, v32, s22.2.1, ()) h37) (
j41 (.undef, v38, v34, v32, s22.2.1, ()) h37))) ((.int .i64 (.ofNat 0)), v19, ()) h20 [])
theorem S3_eq (c : CV) (h : AH) : enterK Tryz.prog NN P3 c 3 [] h = S3 c h := by kernel_rfl
def W3 (c : CV) (l : List AV) (h : AH) : R := match l with | [] => S3 c h | _ => none
theorem W3_ok : WOk Tryz.prog 3 W3 := by
  intro c l h r e
  unfold W3 at e
  split at e
  · exact ⟨P3, by rw [S3_eq]; exact e⟩
  · cases e
/- quietus/machine.New -/
def P4 : Pl := (.n none .z (.n none .z (.n none .z (.n none .z (.n none (.r [[5, 2, 1]]) (.n none (.n none .z (.n none (.n (some [32, 31, 30, 5, 2, 1]) (.n none .z (.n none .z (.n none (.n (some [32, 31, 30, 5, 2, 1]) .z .z) .z))) .z) .z)) (.n none (.n none .z (.n none (.n (some [51, 50, 5, 2, 1]) (.n none .z (.n none .z (.n none (.n none (.n none .z (.n none .z (.n (some [51, 50, 9, 8, 5, 2, 1]) .z (.r [[51, 50, 5, 2, 1]])))) .z) .z))) .z) .z)) .z)))))))
def S4 (c : CV) (a0 a1 : AV) (h : AH) : R :=
pBox h 26 a0 fun v0 h1 =>
pLenS a1 fun v2 =>
pMM false [v2, (.int .i64 (.ofNat 4))] fun v3 =>
pSlice h1 34 1 a1 none (some v3) fun v4 =>
pLenS v4 fun v5 =>
pFieldA v0 0 fun v6 =>
pFieldA v6 3 fun v7 =>
pStore h1 v7 v5 1 fun h8 =>
pLoadN h8 v0 8 fun v9 =>
pCall c (.fn 19 [] []) [v9] h8 fun v10 h11 =>
pStore h11 v0 v10 8 fun h12 =>
joinC (α := AV × AV × AV × Unit → AH → R) (fun s13 h14 =>
pFieldA s13.2.1 0 fun v16 =>
pFieldA v16 0 fun v17 =>
pLoad1 h14 v17 fun v18 =>
pCall c (.fn 21 [] []) [v18] h14 fun v19 h20 =>
pLenS v19 fun v21 =>
loopC (σ := AV × AV × AV × AV × AV × AV × Unit) NN (fun i25 s22 h23 d24 =>
pInt .lss s22.1 s22.2.1 fun v26 =>
pCond v26 (
joinC (α := AV × AV × AV × AV × AV × AV × Unit → AH → List Nat → R) (fun s27 h28 d29 =>
pInt .add s27.1 (.int .i64 (.ofNat 1)) fun v31 =>
i25 (v31, s27.2.1, s27.2.2.1, s27.2.2.2.1, s27.2.2.2.2.1, s27.2.2.2.2.2.1, ()) h28 d29) fun j30 =>
pIdxS s22.2.2.1 s22.1 1 fun v32 =>
pLoad1 h23 v32 fun v33 =>
pInt .neq v33 (.int .u64 (.ofNat 0)) fun v34 =>
pCond v34 (
pNil s22.2.2.2.1 fun v35 =>
pFieldA v35 8 fun v36 =>
pLoad1 h23 v36 fun v37 =>
pBuild [(.int .i64 (.ofNat 0)), (.int .i64 (.ofNat 0)), (.int .u64 (.ofNat 0)), (.int .u64 (.ofNat 0)), (.int .u64 (.ofNat 0)), (.bool false), (.int .i64 (.ofNat 0)), (.int .u64 (.ofNat 0)), (.bool false), (.int .i64 (.ofNat 0))] [(0, 1, (.int .i64 (.ofNat 2))), (1, 1, s22.1), (3, 1, v33)] fun v38 =>
pCall c (.fn 22 [] []) [v37, v38] h23 fun _ h40 =>
j30 (s22.1, s22.2.1, s22.2.2.1, s22.2.2.2.1, s22.2.2.2.2.1, s22.2.2.2.2.2.1, ()) h40 d24) (
j30 (s22.1, s22.2.1, s22.2.2.1, s22.2.2.2.1, s22.2.2.2.2.1, s22.2.2.2.2.2.1, ()) h23 d24)) (
pFieldA s22.2.2.2.2.1 0 fun v41 =>
pFieldA v41 3 fun v42 =>
pLoad1 h23 v42 fun v43 =>
loopC (σ := AV × AV × AV × AV × AV × Unit) NN (fun i47 s44 h45 d46 =>
pInt .lss s44.1 s44.2.1 fun v48 =>
pCond v48 (
joinC (α := AV × AV × AV × AV × AV × AV × AV × Unit → AH → List Nat → R) (fun s49 h50 d51 =>
joinC (α := AV × AV × AV × AV × AV × Unit → AH → R) (fun s53 h54 =>
pInt .add s53.1 (.int .i64 (.ofNat 1)) fun v56 =>
i47 (v56, s53.2.1, s53.2.2.1, s53.2.2.2.1, s53.2.2.2.2.1, ()) h54 d51) fun j55 =>
pNil s49.2.2.2.2.1 fun v57 =>
pFieldA v57 9 fun v58 =>
pLoad1 h50 v58 fun v59 =>
pLoadN h50 s49.2.2.2.2.2.1 8 fun v60 =>
pCall c (.fn 23 [] []) [s49.2.2.2.1, v60, s49.2.2.1] h50 fun v61 h62 =>
pBuildS h62 69 [.nilp] 1 [(0, 1, v61)] fun v63 h64 =>
pAppend h64 69 1 v59 v63 fun v65 h66 =>
pNil s49.2.2.2.2.1 fun v67 =>
pFieldA v67 9 fun v68 =>
pStore h66 v68 v65 1 fun h69 =>
pChk v58 none v59 h50 h62 h50.nx <|
j55 (s49.1, s49.2.1, s49.2.2.2.2.1, s49.2.2.2.2.2.1, s49.2.2.2.2.2.2.1, ()) h69) fun j52 =>
pLenS s44.2.2.2.2.1 fun v70 =>
pInt .lss s44.1 v70 fun v71 =>
pCond v71 (
pIdxS s44.2.2.2.2.1 s44.1 1 fun v72 =>
pLoad1 h45 v72 fun v73 =>
j52 (s44.1, s44.2.1, v73, s44.1, s44.2.2.1, s44.2.2.2.1, s44.2.2.2.2.1, ()) h45 d46) (
j52 (s44.1, s44.2.1, .nils, s44.1, s44.2.2.1, s44.2.2.2.1, s44.2.2.2.2.1, ()) h45 d46)) (
pLeave d46 h45 fun h74 =>
some (s44.2.2.1, h74))) ((.int .i64 (.ofNat 0)), v43, s22.2.2.2.1, s22.2.2.2.2.1, s22.2.2.2.2.2.1, ()) h23 d24)) ((.int .i64 (.ofNat 0)), v21, v19, s13.1, s13.2.1, s13.2.2.1, ()) h20 []) fun j15 =>
pLoadN h12 v0 8 fun v75 =>
pFieldA v0 0 fun v76 =>
pLoadN h12 v76 5 fun v77 =>
pCall c (.fn 20 [] []) [v77] h12 fun v78 h79 =>
pBuild [(.int .i64 (.ofNat 0)), (.int .i64 (.ofNat 0)), (.int .i64 (.ofNat 0)), (.int .i64 (.ofNat 0)), (.int .u64 (.ofNat 0)), (.int .i64 (.ofNat 0)), (.int .i64 (.ofNat 0)), (.int .i64 (.ofNat 0)), .nilp, .nils, (.int .i64 (.ofNat 0)), (.int .i64 (.ofNat 0)), (.int .i64 (.ofNat 0)), (.int .u64 (.ofNat 0)), (.int .u64 (.ofNat 0)), (.int .u64 (.ofNat 0)), (.bool false), (.int .i64 (.ofNat 0)), (.int .u64 (.ofNat 0)), (.bool false), (.int .i64 (.ofNat 0)), (.bool false)] [(0, 8, v75), (8, 1, v78)] fun v80 =>
pBox h79 64 v80 fun v81 h82 =>
pChk v0 (some 8) v75 h12 h79 h12.nx <|
j15 (v81, v0, v4, ()) h82
theorem S4_eq (c : CV) (a0 a1 : AV) (h : AH) : enterK Tryz.prog NN P4 c 4 [a0, a1] h = S4 c a0 a1 h := by kernel_rfl
def W4 (c : CV) (l : List AV) (h : AH) : R := match l with | [a0, a1] => S4 c a0 a1 h | _ => none
theorem W4_ok : WOk Tryz.prog 4 W4 := by
  intro c l h r e
  unfold W4 at e
  split at e
  · exact ⟨P4, by rw [S4_eq]; exact e⟩
  · cases e
/- (*quietus/machine.Machine).Pick -/
def P5 : Pl := (.n none .z (.n none (.n none (.r [[19, 12, 2, 1, 0]]) .z) (.n none .z (.n none .z (.n none .z (.n none .z (.n none (.r [[1, 0]]) (.n none .z (.n none (.n none .z (.n none (.n (some [80, 79, 78, 1, 0]) (.n none .z (.n none .z (.n none (.n (some [80, 79, 78, 1, 0]) .z .z) .z))) .z) .z)) .z)))))))))
def S5 (c : CV) (a0 a1 a2 : AV) (h : AH) : R :=
pInt .lss a1 (.int .i64 (.ofNat 0)) fun v0 =>
joinC (α := AV × AV × AV × AV × AV × Unit → AH → R) (fun s1 h2 =>
pPick s1.2.1 (.bool true) s1.1 fun v4 =>
pCond v4 (
some ((.int .i64 (.ofNat 1)), h2)) (
pNil s1.2.2.2.2.1 fun v5 =>
pFieldA v5 10 fun v6 =>
pLoad1 h2 v6 fun v7 =>
pInt .add v7 (.int .i64 (.ofNat 1)) fun v8 =>
pNil s1.2.2.2.2.1 fun v9 =>
pFieldA v9 10 fun v10 =>
pStore h2 v10 v8 1 fun h11 =>
pNil s1.2.2.2.2.1 fun v12 =>
pFieldA v12 9 fun v13 =>
pLoad1 h11 v13 fun v14 =>
pIdxS v14 s1.2.2.2.1 1 fun v15 =>
pLoad1 h11 v15 fun v16 =>
pCall c (.fn 24 [] []) [v16] h11 fun v17 h18 =>
pExtract v17 0 fun v19 =>
pExtract v17 1 fun v20 =>
pNil s1.2.2.2.2.1 fun v21 =>
pFieldA v21 11 fun v22 =>
pStore h18 v22 v19 10 fun h23 =>
pNil s1.2.2.2.2.1 fun v24 =>
pFieldA v24 21 fun v25 =>
pStore h23 v25 v20 1 fun h26 =>
pNil s1.2.2.2.2.1 fun v27 =>
pFieldA v27 21 fun v28 =>
pLoad1 h26 v28 fun v29 =>
pUn .not v29 fun v30 =>
pCond v30 (
pCall c (.fn 25 [] []) [v16] h26 fun _ h32 =>
some ((.int .i64 (.ofNat 0)), h32)) (
joinC (α := AV × AV × Unit → AH → R) (fun s33 h34 =>
pNil s33.2.1 fun v36 =>
pFieldA v36 11 fun v37 =>
pFieldA v37 0 fun v38 =>
pLoad1 h34 v38 fun v39 =>
pInt .neq v39 (.int .i64 (.ofNat 5)) fun v40 =>
pCond v40 (
some ((.int .i64 (.ofNat 0)), h34)) (
pNil s33.2.1 fun v41 =>
pFieldA v41 9 fun v42 =>
pLoad1 h34 v42 fun v43 =>
pLenS v43 fun v44 =>
loopC (σ := AV × AV × AV × AV × AV × Unit) NN (fun i48 s45 h46 d47 =>
pInt .lss s45.1 s45.2.1 fun v49 =>
pCond v49 (
joinC (α := AV × AV × AV × AV × AV × Unit → AH → List Nat → R) (fun s50 h51 d52 =>
pInt .add s50.1 (.int .i64 (.ofNat 1)) fun v54 =>
i48 (v54, s50.2.1, s50.2.2.1, s50.2.2.2.1, s50.2.2.2.2.1, ()) h51 d52) fun j53 =>
pIdxS s45.2.2.1 s45.1 1 fun v55 =>
pLoad1 h46 v55 fun v56 =>
pInt .neq s45.1 s45.2.2.2.1 fun v57 =>
pCond v57 (
pNil s45.2.2.2.2.1 fun v58 =>
pFieldA v58 11 fun v59 =>
pFieldA v59 1 fun v60 =>
pLoad1 h46 v60 fun v61 =>
pNil s45.2.2.2.2.1 fun v62 =>
pFieldA v62 11 fun v63 =>
pFieldA v63 7 fun v64 =>
pFieldA v64 0 fun v65 =>
pLoad1 h46 v65 fun v66 =>
pCall c (.fn 27 [] []) [v56, v61, v66] h46 fun _ h68 =>
j53 (s45.1, s45.2.1, s45.2.2.1, s45.2.2.2.1, s45.2.2.2.2.1, ()) h68 d47) (
j53 (s45.1, s45.2.1, s45.2.2.1, s45.2.2.2.1, s45.2.2.2.2.1, ()) h46 d47)) (
pLeave d47 h46 fun h69 =>
some ((.int .i64 (.ofNat 0)), h69))) ((.int .i64 (.ofNat 0)), v44, v43, s33.1, s33.2.1, ()) h34 [])) fun j35 =>
pNil s1.2.2.2.2.1 fun v70 =>
pFieldA v70 8 fun v71 =>
pLoad1 h26 v71 fun v72 =>
pNil s1.2.2.2.2.1 fun v73 =>
pFieldA v73 11 fun v74 =>
pLoadN h26 v74 10 fun v75 =>
pCall c (.fn 22 [] []) [v72, v75] h26 fun v76 h77 =>
pNil s1.2.2.2.2.1 fun v78 =>
pFieldA v78 10 fun v79 =>
pLoad1 h77 v79 fun v80 =>
pCall c (.fn 26 [] []) [v16, v76, s1.2.2.1, v80] h77 fun _ h82 =>
pChk v79 none v80 h26 h77 h26.nx <|
j35 (s1.2.2.2.1, s1.2.2.2.2.1, ()) h82))) fun j3 =>
pWant v0 false (
pNil a0 fun v83 =>
pFieldA v83 9 fun v84 =>
pLoad1 h v84 fun v85 =>
pLenS v85 fun v86 =>
pInt .geq a1 v86 fun v87 =>
j3 (v87, v0, a2, a1, a0, ()) h) (
j3 (.undef, v0, a2, a1, a0, ()) h)
theorem S5_eq (c : CV) (a0 a1 a2 : AV) (h : AH) : enterK Tryz.prog NN P5 c 5 [a0, a1, a2] h = S5 c a0 a1 a2 h := by kernel_rfl
def W5 (c : CV) (l : List AV) (h : AH) : R := match l with | [a0, a1, a2] => S5 c a0 a1 a2 h | _ => none
theorem W5_ok : WOk Tryz.prog 5 W5 := by
  intro c l h r e
  unfold W5 at e
  split at e
  · exact ⟨P5, by rw [S5_eq]; exact e⟩
  · cases e
/- (*quietus/machine.Machine).Words -/
def P6 : Pl := .z
def S6 (c : CV) (a0 : AV) (h : AH) : R :=
pNil a0 fun v0 =>
pFieldA v0 8 fun v1 =>
pLoad1 h v1 fun v2 =>
pCall c (.fn 28 [] []) [v2] h fun v3 h4 =>
some (v3, h4)
theorem S6_eq (c : CV) (a0 : AV) (h : AH) : enterK Tryz.prog NN P6 c 6 [a0] h = S6 c a0 h := by kernel_rfl
def W6 (c : CV) (l : List AV) (h : AH) : R := match l with | [a0] => S6 c a0 h | _ => none
theorem W6_ok : WOk Tryz.prog 6 W6 := by
  intro c l h r e
  unfold W6 at e
  split at e
  · exact ⟨P6, by rw [S6_eq]; exact e⟩
  · cases e
/- (*quietus/machine.Machine).Results -/
def P7 : Pl := .z
def S7 (c : CV) (a0 a1 : AV) (h : AH) : R :=
pCall c (.fn 29 [] []) [a0, a1] h fun v0 h1 =>
pEq .ptr true v0 .nilp fun v2 =>
pCond v2 (
pCall c (.fn 30 [] []) [v0] h1 fun v3 h4 =>
some (v3, h4)) (
some (.nils, h1))
theorem S7_eq (c : CV) (a0 a1 : AV) (h : AH) : enterK Tryz.prog NN P7 c 7 [a0, a1] h = S7 c a0 a1 h := by kernel_rfl
def W7 (c : CV) (l : List AV) (h : AH) : R := match l with | [a0, a1] => S7 c a0 a1 h | _ => none
theorem W7_ok : WOk Tryz.prog 7 W7 := by
  intro c l h r e
  unfold W7 at e
  split at e
  · exact ⟨P7, by rw [S7_eq]; exact e⟩
  · cases e
/- (*quietus/machine.Machine).State -/
def P8 : Pl := .z
def S8 (c : CV) (a0 a1 : AV) (h : AH) : R :=
pCall c (.fn 29 [] []) [a0, a1] h fun v0 h1 =>
pEq .ptr true v0 .nilp fun v2 =>
pCond v2 (
pCall c (.fn 31 [] []) [v0] h1 fun v3 h4 =>
some (v3, h4)) (
some ((.int .i64 (.ofNat 0)), h1))
theorem S8_eq (c : CV) (a0 a1 : AV) (h : AH) : enterK Tryz.prog NN P8 c 8 [a0, a1] h = S8 c a0 a1 h := by kernel_rfl
def W8 (c : CV) (l : List AV) (h : AH) : R := match l with | [a0, a1] => S8 c a0 a1 h | _ => none
theorem W8_ok : WOk Tryz.prog 8 W8 := by
  intro c l h r e
  unfold W8 at e
  split at e
  · exact ⟨P8, by rw [S8_eq]; exact e⟩
  · cases e
/- (*quietus/machine.Machine).Now -/
def P9 : Pl := .z
def S9 (c : CV) (a0 : AV) (h : AH) : R :=
pNil a0 fun v0 =>
pFieldA v0 8 fun v1 =>
pLoad1 h v1 fun v2 =>
pCall c (.fn 32 [] []) [v2] h fun v3 h4 =>
some (v3, h4)
theorem S9_eq (c : CV) (a0 : AV) (h : AH) : enterK Tryz.prog NN P9 c 9 [a0] h = S9 c a0 h := by kernel_rfl
def W9 (c : CV) (l : List AV) (h : AH) : R := match l with | [a0] => S9 c a0 h | _ => none
theorem W9_ok : WOk Tryz.prog 9 W9 := by
  intro c l h r e
  unfold W9 at e
  split at e
  · exact ⟨P9, by rw [S9_eq]; exact e⟩
  · cases e
/- (*quietus/machine.Machine).Picks -/
def P10 : Pl := .z
def S10 (_ : CV) (a0 : AV) (h : AH) : R :=
pNil a0 fun v0 =>
pFieldA v0 10 fun v1 =>
pLoad1 h v1 fun v2 =>
some (v2, h)
theorem S10_eq (c : CV) (a0 : AV) (h : AH) : enterK Tryz.prog NN P10 c 10 [a0] h = S10 c a0 h := by kernel_rfl
def W10 (c : CV) (l : List AV) (h : AH) : R := match l with | [a0] => S10 c a0 h | _ => none
theorem W10_ok : WOk Tryz.prog 10 W10 := by
  intro c l h r e
  unfold W10 at e
  split at e
  · exact ⟨P10, by rw [S10_eq]; exact e⟩
  · cases e
/- (*quietus/machine.Machine).Threads -/
def P11 : Pl := .z
def S11 (_ : CV) (a0 : AV) (h : AH) : R :=
pNil a0 fun v0 =>
pFieldA v0 9 fun v1 =>
pLoad1 h v1 fun v2 =>
pLenS v2 fun v3 =>
some (v3, h)
theorem S11_eq (c : CV) (a0 : AV) (h : AH) : enterK Tryz.prog NN P11 c 11 [a0] h = S11 c a0 h := by kernel_rfl
def W11 (c : CV) (l : List AV) (h : AH) : R := match l with | [a0] => S11 c a0 h | _ => none
theorem W11_ok : WOk Tryz.prog 11 W11 := by
  intro c l h r e
  unfold W11 at e
  split at e
  · exact ⟨P11, by rw [S11_eq]; exact e⟩
  · cases e
/- (*quietus/machine.Machine).Rests -/
def P12 : Pl := (.n none .z (.n none (.n none .z (.n none (.n (some [11, 10, 9]) (.n none .z (.n none .z (.n none (.n none (.n none .z (.n none .z (.n none (.r [[21, 19, 11, 10, 9]]) .z))) .z) .z))) .z) .z)) .z))
def S12 (c : CV) (a0 : AV) (h : AH) : R :=
pNil a0 fun v0 =>
pFieldA v0 9 fun v1 =>
pLoad1 h v1 fun v2 =>
pLenS v2 fun v3 =>
loopC (σ := AV × AV × AV × Unit) NN (fun i7 s4 h5 d6 =>
pInt .lss s4.1 s4.2.1 fun v8 =>
pCond v8 (
pIdxS s4.2.2.1 s4.1 1 fun v9 =>
pLoad1 h5 v9 fun v10 =>
pCall c (.fn 31 [] []) [v10] h5 fun v11 h12 =>
pInt .neq v11 (.int .i64 (.ofNat 6)) fun v13 =>
joinC (α := AV × AV × AV × AV × AV × Unit → AH → R) (fun s14 h15 =>
pPick s14.2.1 s14.1 (.bool false) fun v17 =>
pCond v17 (
pLeave d6 h15 fun h18 =>
some ((.bool false), h18)) (
pInt .add s14.2.2.1 (.int .i64 (.ofNat 1)) fun v19 =>
i7 (v19, s14.2.2.2.1, s14.2.2.2.2.1, ()) h15 d6)) fun j16 =>
pWant v13 true (
pInt .neq v11 (.int .i64 (.ofNat 4)) fun v20 =>
j16 (v20, v13, s4.1, s4.2.1, s4.2.2.1, ()) h12) (
j16 (.undef, v13, s4.1, s4.2.1, s4.2.2.1, ()) h12)) (
pLeave d6 h5 fun h21 =>
some ((.bool true), h21))) ((.int .i64 (.ofNat 0)), v3, v2, ()) h []
theorem S12_eq (c : CV) (a0 : AV) (h : AH) : enterK Tryz.prog NN P12 c 12 [a0] h = S12 c a0 h := by kernel_rfl
def W12 (c : CV) (l : List AV) (h : AH) : R := match l with | [a0] => S12 c a0 h | _ => none
theorem W12_ok : WOk Tryz.prog 12 W12 := by
  intro c l h r e
  unfold W12 at e
  split at e
  · exact ⟨P12, by rw [S12_eq]; exact e⟩
  · cases e
/- (*quietus/machine.Machine).Writing -/
def P13 : Pl := (.n none .z (.n none (.n none .z (.n none (.n (some [10, 9, 8]) .z .z) .z)) .z))
def S13 (c : CV) (a0 : AV) (h : AH) : R :=
pNil a0 fun v0 =>
pFieldA v0 9 fun v1 =>
pLoad1 h v1 fun v2 =>
pLenS v2 fun v3 =>
loopC (σ := AV × AV × AV × Unit) NN (fun i7 s4 h5 d6 =>
pInt .lss s4.1 s4.2.1 fun v8 =>
pCond v8 (
pIdxS s4.2.2.1 s4.1 1 fun v9 =>
pLoad1 h5 v9 fun v10 =>
pCall c (.fn 33 [] []) [v10] h5 fun v11 h12 =>
pCond v11 (
pLeave d6 h12 fun h13 =>
some ((.bool true), h13)) (
pInt .add s4.1 (.int .i64 (.ofNat 1)) fun v14 =>
i7 (v14, s4.2.1, s4.2.2.1, ()) h12 d6)) (
pLeave d6 h5 fun h15 =>
some ((.bool false), h15))) ((.int .i64 (.ofNat 0)), v3, v2, ()) h []
theorem S13_eq (c : CV) (a0 : AV) (h : AH) : enterK Tryz.prog NN P13 c 13 [a0] h = S13 c a0 h := by kernel_rfl
def W13 (c : CV) (l : List AV) (h : AH) : R := match l with | [a0] => S13 c a0 h | _ => none
theorem W13_ok : WOk Tryz.prog 13 W13 := by
  intro c l h r e
  unfold W13 at e
  split at e
  · exact ⟨P13, by rw [S13_eq]; exact e⟩
  · cases e
/- (*quietus/machine.Machine).Attempts -/
def P14 : Pl := (.n none .z (.n none .z (.n none (.n none .z (.n none (.n (some [11, 10, 9, 3]) .z .z) .z)) .z)))
def S14 (c : CV) (a0 : AV) (h : AH) : R :=
pNil a0 fun v0 =>
pFieldA v0 9 fun v1 =>
pLoad1 h v1 fun v2 =>
pLenS v2 fun v3 =>
loopC (σ := AV × AV × AV × AV × Unit) NN (fun i7 s4 h5 d6 =>
pInt .lss s4.1 s4.2.1 fun v8 =>
pCond v8 (
pIdxS s4.2.2.1 s4.1 1 fun v9 =>
pLoad1 h5 v9 fun v10 =>
pCall c (.fn 34 [] []) [v10] h5 fun v11 h12 =>
pAppend h12 111 14 s4.2.2.2.1 v11 fun v13 h14 =>
pInt .add s4.1 (.int .i64 (.ofNat 1)) fun v15 =>
i7 (v15, s4.2.1, s4.2.2.1, v13, ()) h14 d6) (
pLeave d6 h5 fun h16 =>
some (s4.2.2.2.1, h16))) ((.int .i64 (.ofNat 0)), v3, v2, .nils, ()) h []
theorem S14_eq (c : CV) (a0 : AV) (h : AH) : enterK Tryz.prog NN P14 c 14 [a0] h = S14 c a0 h := by kernel_rfl
def W14 (c : CV) (l : List AV) (h : AH) : R := match l with | [a0] => S14 c a0 h | _ => none
theorem W14_ok : WOk Tryz.prog 14 W14 := by
  intro c l h r e
  unfold W14 at e
  split at e
  · exact ⟨P14, by rw [S14_eq]; exact e⟩
  · cases e
/- (*quietus/machine.Machine).Locks -/
def P15 : Pl := .z
def S15 (c : CV) (a0 : AV) (h : AH) : R :=
pNil a0 fun v0 =>
pFieldA v0 8 fun v1 =>
pLoad1 h v1 fun v2 =>
pCall c (.fn 35 [] []) [v2] h fun v3 h4 =>
some (v3, h4)
theorem S15_eq (c : CV) (a0 : AV) (h : AH) : enterK Tryz.prog NN P15 c 15 [a0] h = S15 c a0 h := by kernel_rfl
def W15 (c : CV) (l : List AV) (h : AH) : R := match l with | [a0] => S15 c a0 h | _ => none
theorem W15_ok : WOk Tryz.prog 15 W15 := by
  intro c l h r e
  unfold W15 at e
  split at e
  · exact ⟨P15, by rw [S15_eq]; exact e⟩
  · cases e
/- (*quietus/machine.Machine).Slots -/
def P16 : Pl := .z
def S16 (c : CV) (a0 : AV) (h : AH) : R :=
pNil a0 fun v0 =>
pFieldA v0 8 fun v1 =>
pLoad1 h v1 fun v2 =>
pCall c (.fn 36 [] []) [v2] h fun v3 h4 =>
some (v3, h4)
theorem S16_eq (c : CV) (a0 : AV) (h : AH) : enterK Tryz.prog NN P16 c 16 [a0] h = S16 c a0 h := by kernel_rfl
def W16 (c : CV) (l : List AV) (h : AH) : R := match l with | [a0] => S16 c a0 h | _ => none
theorem W16_ok : WOk Tryz.prog 16 W16 := by
  intro c l h r e
  unfold W16 at e
  split at e
  · exact ⟨P16, by rw [S16_eq]; exact e⟩
  · cases e
/- (*quietus/machine.Machine).Limbo -/
def P17 : Pl := .z
def S17 (c : CV) (a0 a1 : AV) (h : AH) : R :=
pCall c (.fn 29 [] []) [a0, a1] h fun v0 h1 =>
pEq .ptr true v0 .nilp fun v2 =>
pCond v2 (
pCall c (.fn 37 [] []) [v0] h1 fun v3 h4 =>
some (v3, h4)) (
some (.nils, h1))
theorem S17_eq (c : CV) (a0 a1 : AV) (h : AH) : enterK Tryz.prog NN P17 c 17 [a0, a1] h = S17 c a0 a1 h := by kernel_rfl
def W17 (c : CV) (l : List AV) (h : AH) : R := match l with | [a0, a1] => S17 c a0 a1 h | _ => none
theorem W17_ok : WOk Tryz.prog 17 W17 := by
  intro c l h r e
  unfold W17 at e
  split at e
  · exact ⟨P17, by rw [S17_eq]; exact e⟩
  · cases e
/- (*quietus/machine.Machine).Setup -/
def P18 : Pl := .z
def S18 (_ : CV) (a0 : AV) (h : AH) : R :=
pBox h 26 (.agg [(.int .i64 (.ofNat 0)), (.int .i64 (.ofNat 0)), (.int .i64 (.ofNat 0)), (.int .i64 (.ofNat 0)), (.int .u64 (.ofNat 0)), (.int .i64 (.ofNat 0)), (.int .i64 (.ofNat 0)), (.int .i64 (.ofNat 0))]) fun v0 h1 =>
pNil a0 fun v2 =>
pFieldA v2 0 fun v3 =>
pLoadN h1 v3 8 fun v4 =>
pStore h1 v0 v4 8 fun h5 =>
pLoadN h5 v0 8 fun v6 =>
some (v6, h5)
theorem S18_eq (c : CV) (a0 : AV) (h : AH) : enterK Tryz.prog NN P18 c 18 [a0] h = S18 c a0 h := by kernel_rfl
def W18 (c : CV) (l : List AV) (h : AH) : R := match l with | [a0] => S18 c a0 h | _ => none
theorem W18_ok : WOk Tryz.prog 18 W18 := by
  intro c l h r e
  unfold W18 at e
  split at e
  · exact ⟨P18, by rw [S18_eq]; exact e⟩
  · cases e
/- quietus/attempt.Held -/
def P19 : Pl := (.n none .z (.n none (.r [[2]]) .z))
def S19 (c : CV) (a0 : AV) (h : AH) : R :=
pBox h 26 a0 fun v0 h1 =>
pBox h1 26 (.agg [(.int .i64 (.ofNat 0)), (.int .i64 (.ofNat 0)), (.int .i64 (.ofNat 0)), (.int .i64 (.ofNat 0)), (.int .u64 (.ofNat 0)), (.int .i64 (.ofNat 0)), (.int .i64 (.ofNat 0)), (.int .i64 (.ofNat 0))]) fun v2 h3 =>
joinC (α := AV × Unit → AH → R) (fun s4 h5 =>
pLoadN h5 s4.1 8 fun v7 =>
some (v7, h5)) fun j6 =>
pFieldA v0 0 fun v8 =>
pLoadN h3 v8 5 fun v9 =>
pCall c (.fn 38 [] []) [v9] h3 fun v10 h11 =>
pFieldA v0 5 fun v12 =>
pLoad1 h11 v12 fun v13 =>
pMM false [v13, (.int .i64 (.ofNat 4))] fun v14 =>
pMM true [(.int .i64 (.ofNat 0)), v14] fun v15 =>
pFieldA v0 6 fun v16 =>
pLoad1 h11 v16 fun v17 =>
pMM false [v17, (.int .i64 (.ofNat 96))] fun v18 =>
pMM true [(.int .i64 (.ofNat 0)), v18] fun v19 =>
pFieldA v0 7 fun v20 =>
pLoad1 h11 v20 fun v21 =>
pMM false [v21, (.int .i64 (.ofNat 400))] fun v22 =>
pMM true [(.int .i64 (.ofNat 0)), v22] fun v23 =>
pBuild [(.int .i64 (.ofNat 0)), (.int .i64 (.ofNat 0)), (.int .i64 (.ofNat 0)), (.int .i64 (.ofNat 0)), (.int .u64 (.ofNat 0)), (.int .i64 (.ofNat 0)), (.int .i64 (.ofNat 0)), (.int .i64 (.ofNat 0))] [(0, 5, v10), (5, 1, v15), (6, 1, v19), (7, 1, v23)] fun v24 =>
pStore h11 v2 v24 8 fun h25 =>
pChk v20 none v21 h3 h11 h3.nx <|
pChk v16 none v17 h3 h11 h3.nx <|
pChk v12 none v13 h3 h11 h3.nx <|
j6 (v2, ()) h25
theorem S19_eq (c : CV) (a0 : AV) (h : AH) : enterK Tryz.prog NN P19 c 19 [a0] h = S19 c a0 h := by kernel_rfl
def W19 (c : CV) (l : List AV) (h : AH) : R := match l with | [a0] => S19 c a0 h | _ => none
theorem W19_ok : WOk Tryz.prog 19 W19 := by
  intro c l h r e
  unfold W19 at e
  split at e
  · exact ⟨P19, by rw [S19_eq]; exact e⟩
  · cases e
/- quietus/mem.New -/
def P20 : Pl := (.n none .z (.n none .z (.n none (.r [[2]]) .z)))
def S20 (c : CV) (a0 : AV) (h : AH) : R :=
pBox h 24 a0 fun v0 h1 =>
pLoadN h1 v0 5 fun v2 =>
pCall c (.fn 38 [] []) [v2] h1 fun v3 h4 =>
pStore h4 v0 v3 5 fun h5 =>
joinC (α := AV × Unit → AH → R) (fun s6 h7 =>
some (s6.1, h7)) fun j8 =>
pLoadN h5 v0 5 fun v9 =>
pFieldA v0 0 fun v10 =>
pLoad1 h5 v10 fun v11 =>
pCall c (.fn 39 [] []) [v11] h5 fun v12 h13 =>
pFieldA v0 1 fun v14 =>
pLoad1 h13 v14 fun v15 =>
pFieldA v0 2 fun v16 =>
pLoad1 h13 v16 fun v17 =>
pCall c (.fn 40 [] []) [v15, v17] h13 fun v18 h19 =>
pFieldA v0 4 fun v20 =>
pLoad1 h19 v20 fun v21 =>
pCall c (.fn 41 [] []) [v21] h19 fun v22 h23 =>
pFieldA v0 3 fun v24 =>
pLoad1 h23 v24 fun v25 =>
pCall c (.fn 42 [] []) [v25] h23 fun v26 h27 =>
pBuild [(.int .i64 (.ofNat 0)), (.int .i64 (.ofNat 0)), (.int .i64 (.ofNat 0)), (.int .i64 (.ofNat 0)), (.int .u64 (.ofNat 0)), .nilp, .nilp, .nilp, .nilp, (.int .i64 (.ofNat 0))] [(0, 5, v9), (5, 1, v12), (6, 1, v18), (7, 1, v22), (8, 1, v26)] fun v28 =>
pBox h27 88 v28 fun v29 h30 =>
pChk v24 none v25 h19 h23 h5.nx <|
pChk v24 none v25 h13 h19 h5.nx <|
pChk v24 none v25 h5 h13 h5.nx <|
pChk v20 none v21 h13 h19 h5.nx <|
pChk v20 none v21 h5 h13 h5.nx <|
pChk v16 none v17 h5 h13 h5.nx <|
pChk v14 none v15 h5 h13 h5.nx <|
pChk v0 (some 5) v9 h23 h27 h5.nx <|
pChk v0 (some 5) v9 h19 h23 h5.nx <|
pChk v0 (some 5) v9 h13 h19 h5.nx <|
pChk v0 (some 5) v9 h5 h13 h5.nx <|
j8 (v29, ()) h30
theorem S20_eq (c : CV) (a0 : AV) (h : AH) : enterK Tryz.prog NN P20 c 20 [a0] h = S20 c a0 h := by kernel_rfl
def W20 (c : CV) (l : List AV) (h : AH) : R := match l with | [a0] => S20 c a0 h | _ => none
theorem W20_ok : WOk Tryz.prog 20 W20 := by
  intro c l h r e
  unfold W20 at e
  split at e
  · exact ⟨P20, by rw [S20_eq]; exact e⟩
  · cases e
/- quietus/arena.Fresh -/
def P21 : Pl := .z
def S21 (_ : CV) (a0 : AV) (h : AH) : R :=
pMM false [a0, (.int .i64 (.ofNat 256))] fun v0 =>
pMM true [(.int .i64 (.ofNat 32)), v0] fun v1 =>
pMake h 22 [(.int .u64 (.ofNat 0))] v1 v1 fun v2 h3 =>
pIdxS v2 (.int .i64 (.ofNat 5)) 1 fun v4 =>
pStore h3 v4 (.int .u64 (.ofNat 14)) 1 fun h5 =>
some (v2, h5)
theorem S21_eq (c : CV) (a0 : AV) (h : AH) : enterK Tryz.prog NN P21 c 21 [a0] h = S21 c a0 h := by kernel_rfl
def W21 (c : CV) (l : List AV) (h : AH) : R := match l with | [a0] => S21 c a0 h | _ => none
theorem W21_ok : WOk Tryz.prog 21 W21 := by
  intro c l h r e
  unfold W21 at e
  split at e
  · exact ⟨P21, by rw [S21_eq]; exact e⟩
  · cases e
/- (*quietus/mem.Mem).Do -/
def P22 : Pl := (.n none .z (.n none .z (.n (some [5, 4]) .z .z)))
def S22 (c : CV) (a0 a1 : AV) (h : AH) : R :=
pBox h 62 a1 fun v0 h1 =>
pBox h1 67 (.agg [(.int .u64 (.ofNat 0)), (.int .u64 (.ofNat 0)), (.bool false), (.int .i64 (.ofNat 0)), (.bool false), (.int .i64 (.ofNat 0))]) fun v2 h3 =>
pLoadN h3 v0 10 fun v4 =>
pCall c (.fn 43 [] []) [a0, v4] h3 fun v5 h6 =>
pBox h6 67 (.agg [(.int .u64 (.ofNat 0)), (.int .u64 (.ofNat 0)), (.bool false), (.int .i64 (.ofNat 0)), (.bool false), (.int .i64 (.ofNat 0))]) fun v7 h8 =>
pStore h8 v7 v5 6 fun h9 =>
joinC (α := AV × AV × Unit → AH → List Nat → R) (fun s10 h11 d12 =>
pLoadN h11 s10.1 6 fun v14 =>
pStore h11 s10.2.1 v14 6 fun h15 =>
pLeave d12 h15 fun h16 =>
pLoadN h16 s10.2.1 6 fun v17 =>
some (v17, h16)) fun j13 =>
pFieldA v7 5 fun v18 =>
pLoad1 h9 v18 fun v19 =>
pInt .eql v19 (.int .i64 (.ofNat 0)) fun v20 =>
pCond v20 (
pNil a0 fun v21 =>
pFieldA v21 9 fun v22 =>
pLoad1 h9 v22 fun v23 =>
pInt .add v23 (.int .i64 (.ofNat 1)) fun v24 =>
pNil a0 fun v25 =>
pFieldA v25 9 fun v26 =>
pStore h9 v26 v24 1 fun h27 =>
j13 (v7, v2, ()) h27 []) (
j13 (v7, v2, ()) h9 [])
theorem S22_eq (c : CV) (a0 a1 : AV) (h : AH) : enterK Tryz.prog NN P22 c 22 [a0, a1] h = S22 c a0 a1 h := by kernel_rfl
def W22 (c : CV) (l : List AV) (h : AH) : R := match l with | [a0, a1] => S22 c a0 a1 h | _ => none
theorem W22_ok : WOk Tryz.prog 22 W22 := by
  intro c l h r e
  unfold W22 at e
  split at e
  · exact ⟨P22, by rw [S22_eq]; exact e⟩
  · cases e
/- quietus/thread.New -/
def P23 : Pl := (.n none .z (.n none .z (.n none (.r [[7, 2]]) (.n none (.n none .z (.n none (.n (some [29, 28, 27, 7]) (.n none .z (.n none .z (.n none (.n none (.n none .z (.r [[29, 28, 27, 7]])) .z) .z))) .z) .z)) .z))))
def S23 (c : CV) (a0 a1 a2 : AV) (h : AH) : R :=
pBox h 26 a1 fun v0 h1 =>
pLoadN h1 v0 8 fun v2 =>
pCall c (.fn 19 [] []) [v2] h1 fun v3 h4 =>
pStore h4 v0 v3 8 fun h5 =>
joinC (α := AV × AV × Unit → AH → R) (fun s6 h7 =>
pLenS s6.2.1 fun v9 =>
pMM false [v9, (.int .i64 (.ofNat 6))] fun v10 =>
pSlice h7 31 1 s6.2.1 none (some v10) fun v11 =>
pLenS v11 fun v12 =>
loopC (σ := AV × AV × AV × AV × Unit) NN (fun i16 s13 h14 d15 =>
pInt .lss s13.1 s13.2.1 fun v17 =>
pCond v17 (
pIdxS s13.2.2.1 s13.1 1 fun v18 =>
pLoadN h14 v18 1 fun v19 =>
pBox h14 31 (.agg [.nils]) fun v20 h21 =>
pStore h21 v20 v19 1 fun h22 =>
joinC (α := AV × AV × AV × AV × Unit → AH → R) (fun s23 h24 =>
pInt .add s23.1 (.int .i64 (.ofNat 1)) fun v26 =>
i16 (v26, s23.2.1, s23.2.2.1, s23.2.2.2.1, ()) h24 d15) fun j25 =>
pNil s13.2.2.2.1 fun v27 =>
pFieldA v27 9 fun v28 =>
pLoad1 h22 v28 fun v29 =>
pFieldA v20 0 fun v30 =>
pLoad1 h22 v30 fun v31 =>
pCall c (.fn 45 [] []) [v31] h22 fun v32 h33 =>
pBuild [.nils] [(0, 1, v32)] fun v34 =>
pBuildS h33 31 [.nils] 1 [(0, 1, v34)] fun v35 h36 =>
pAppend h36 31 1 v29 v35 fun v37 h38 =>
pNil s13.2.2.2.1 fun v39 =>
pFieldA v39 9 fun v40 =>
pStore h38 v40 v37 1 fun h41 =>
pChk v28 none v29 h22 h33 h22.nx <|
j25 (s13.1, s13.2.1, s13.2.2.1, s13.2.2.2.1, ()) h41) (
pCall c (.fn 46 [] []) [s13.2.2.2.1] h14 fun _ h43 =>
pLeave d15 h43 fun h44 =>
some (s13.2.2.2.1, h44))) ((.int .i64 (.ofNat 0)), v12, v11, s6.1, ()) h7 []) fun j8 =>
pFieldA v0 0 fun v45 =>
pFieldA v45 3 fun v46 =>
pLoad1 h5 v46 fun v47 =>
pInt .sub v47 (.int .i64 (.ofNat 1)) fun v48 =>
pMM false [a0, v48] fun v49 =>
pMM true [(.int .i64 (.ofNat 0)), v49] fun v50 =>
pLoadN h5 v0 8 fun v51 =>
pCall c (.fn 44 [] []) [] h5 fun v52 h53 =>
pBuild [(.int .i64 (.ofNat 0)), (.int .i64 (.ofNat 0)), (.int .i64 (.ofNat 0)), (.int .i64 (.ofNat 0)), (.int .i64 (.ofNat 0)), (.int .u64 (.ofNat 0)), (.int .i64 (.ofNat 0)), (.int .i64 (.ofNat 0)), (.int .i64 (.ofNat 0)), .nils, (.int .i64 (.ofNat 0)), (.int .i64 (.ofNat 0)), (.bool false), .nils, (.int .i64 (.ofNat 0)), (.int .i64 (.ofNat 0)), .nilp, (.int .i64 (.ofNat 0)), (.bool false), .nils, .nils, .nilp, .nils, (.int .i64 (.ofNat 0)), (.int .u64 (.ofNat 0)), (.bool false), (.int .i64 (.ofNat 0))] [(0, 1, v50), (1, 8, v51), (21, 1, v52), (10, 1, (.int .i64 (.negSucc 0)))] fun v54 =>
pBox h53 95 v54 fun v55 h56 =>
pChk v0 (some 8) v51 h5 h53 h5.nx <|
pChk v46 none v47 h5 h53 h5.nx <|
j8 (v55, a2, ()) h56
theorem S23_eq (c : CV) (a0 a1 a2 : AV) (h : AH) : enterK Tryz.prog NN P23 c 23 [a0, a1, a2] h = S23 c a0 a1 a2 h := by kernel_rfl
def W23 (c : CV) (l : List AV) (h : AH) : R := match l with | [a0, a1, a2] => S23 c a0 a1 a2 h | _ => none
theorem W23_ok : WOk Tryz.prog 23 W23 := by
  intro c l h r e
  unfold W23 at e
  split at e
  · exact ⟨P23, by rw [S23_eq]; exact e⟩
  · cases e
/- (*quietus/thread.Thread).Next -/
def P24 : Pl := .z
def S24 (c : CV) (a0 : AV) (h : AH) : R :=
pBox h 62 (.agg [(.int .i64 (.ofNat 0)), (.int .i64 (.ofNat 0)), (.int .u64 (.ofNat 0)), (.int .u64 (.ofNat 0)), (.int .u64 (.ofNat 0)), (.bool false), (.int .i64 (.ofNat 0)), (.int .u64 (.ofNat 0)), (.bool false), (.int .i64 (.ofNat 0))]) fun v0 h1 =>
pNil a0 fun v2 =>
pFieldA v2 11 fun v3 =>
pLoad1 h1 v3 fun v4 =>
pInt .eql v4 (.int .i64 (.ofNat 1)) fun v5 =>
pCond v5 (
pNil a0 fun v6 =>
pFieldA v6 16 fun v7 =>
pLoad1 h1 v7 fun v8 =>
pCall c (.fn 47 [] []) [v8] h1 fun v9 h10 =>
pExtract v9 0 fun v11 =>
pExtract v9 1 fun v12 =>
pStore h10 v0 v11 10 fun h13 =>
pLoadN h13 v0 10 fun v14 =>
some ((.tup [v14, v12]), h13)) (
pInt .eql v4 (.int .i64 (.ofNat 2)) fun v15 =>
pCond v15 (
pNil a0 fun v16 =>
pFieldA v16 23 fun v17 =>
pLoad1 h1 v17 fun v18 =>
pBuild [(.int .i64 (.ofNat 0)), (.int .i64 (.ofNat 0)), (.int .u64 (.ofNat 0)), (.int .u64 (.ofNat 0)), (.int .u64 (.ofNat 0)), (.bool false), (.int .i64 (.ofNat 0)), (.int .u64 (.ofNat 0)), (.bool false), (.int .i64 (.ofNat 0))] [(0, 1, (.int .i64 (.ofNat 8))), (1, 1, v18)] fun v19 =>
pStore h1 v0 v19 10 fun h20 =>
pLoadN h20 v0 10 fun v21 =>
some ((.tup [v21, (.bool true)]), h20)) (
pInt .eql v4 (.int .i64 (.ofNat 5)) fun v22 =>
pCond v22 (
pNil a0 fun v23 =>
pFieldA v23 22 fun v24 =>
pLoad1 h1 v24 fun v25 =>
pLenS v25 fun v26 =>
pBuild [(.int .i64 (.ofNat 0)), (.int .i64 (.ofNat 0)), (.int .u64 (.ofNat 0)), (.int .u64 (.ofNat 0)), (.int .u64 (.ofNat 0)), (.bool false), (.int .i64 (.ofNat 0)), (.int .u64 (.ofNat 0)), (.bool false), (.int .i64 (.ofNat 0))] [(0, 1, (.int .i64 (.ofNat 8))), (1, 1, v26)] fun v27 =>
pStore h1 v0 v27 10 fun h28 =>
pLoadN h28 v0 10 fun v29 =>
some ((.tup [v29, (.bool true)]), h28)) (
pBuild [(.int .i64 (.ofNat 0)), (.int .i64 (.ofNat 0)), (.int .u64 (.ofNat 0)), (.int .u64 (.ofNat 0)), (.int .u64 (.ofNat 0)), (.bool false), (.int .i64 (.ofNat 0)), (.int .u64 (.ofNat 0)), (.bool false), (.int .i64 (.ofNat 0))] [] fun v30 =>
pStore h1 v0 v30 10 fun h31 =>
pLoadN h31 v0 10 fun v32 =>
some ((.tup [v32, (.bool false)]), h31))))
theorem S24_eq (c : CV) (a0 : AV) (h : AH) : enterK Tryz.prog NN P24 c 24 [a0] h = S24 c a0 h := by kernel_rfl
def W24 (c : CV) (l : List AV) (h : AH) : R := match l with | [a0] => S24 c a0 h | _ => none
theorem W24_ok : WOk Tryz.prog 24 W24 := by
  intro c l h r e
  unfold W24 at e
  split at e
  · exact ⟨P24, by rw [S24_eq]; exact e⟩
  · cases e
/- (*quietus/thread.Thread).Pause -/
def P25 : Pl := .z
def S25 (c : CV) (a0 : AV) (h : AH) : R :=
pNil a0 fun v0 =>
pFieldA v0 11 fun v1 =>
pLoad1 h v1 fun v2 =>
pInt .neq v2 (.int .i64 (.ofNat 3)) fun v3 =>
pCond v3 (
some ((.tup []), h)) (
pNil a0 fun v4 =>
pFieldA v4 26 fun v5 =>
pLoad1 h v5 fun v6 =>
pInt .sub v6 (.int .i64 (.ofNat 1)) fun v7 =>
pNil a0 fun v8 =>
pFieldA v8 26 fun v9 =>
pStore h v9 v7 1 fun h10 =>
pNil a0 fun v11 =>
pFieldA v11 26 fun v12 =>
pLoad1 h10 v12 fun v13 =>
pInt .eql v13 (.int .i64 (.ofNat 0)) fun v14 =>
pCond v14 (
pCall c (.fn 48 [] []) [a0] h10 fun _ h16 =>
some ((.tup []), h16)) (
some ((.tup []), h10)))
theorem S25_eq (c : CV) (a0 : AV) (h : AH) : enterK Tryz.prog NN P25 c 25 [a0] h = S25 c a0 h := by kernel_rfl
def W25 (c : CV) (l : List AV) (h : AH) : R := match l with | [a0] => S25 c a0 h | _ => none
theorem W25_ok : WOk Tryz.prog 25 W25 := by
  intro c l h r e
  unfold W25 at e
  split at e
  · exact ⟨P25, by rw [S25_eq]; exact e⟩
  · cases e
/- (*quietus/thread.Thread).Tell -/
def P26 : Pl := (.n none .z (.n none .z (.n (some []) (.n none .z (.n none (.n none .z (.n none .z (.n (some [3, 2, 0]) (.n none .z (.n none (.r [[43, 41, 3, 2, 0]]) .z)) .z))) (.n none .z (.n none .z (.n none .z (.n none (.n (some [5, 0]) .z .z) .z)))))) .z)))
def S26 (c : CV) (a0 a1 a2 a3 : AV) (h : AH) : R :=
pBox h 67 a1 fun v0 h1 =>
pNil a0 fun v2 =>
pFieldA v2 11 fun v3 =>
pLoad1 h1 v3 fun v4 =>
joinC (α := Unit → AH → List Nat → R) (fun _ h6 d7 =>
pLeave d7 h6 fun h9 =>
some ((.tup []), h9)) fun j8 =>
pInt .eql v4 (.int .i64 (.ofNat 1)) fun v10 =>
pCond v10 (
pNil a0 fun v11 =>
pFieldA v11 16 fun v12 =>
pLoad1 h1 v12 fun v13 =>
pCall c (.fn 49 [] []) [v13] h1 fun v14 h15 =>
pExtract v14 0 fun _ =>
pExtract v14 1 fun v17 =>
pNil a0 fun v18 =>
pFieldA v18 16 fun v19 =>
pLoad1 h15 v19 fun v20 =>
pLoadN h15 v0 6 fun v21 =>
pCall c (.fn 50 [] []) [v20, v21] h15 fun _ h23 =>
joinC (α := AV × AV × AV × Unit → AH → List Nat → R) (fun s24 h25 d26 =>
pNil s24.2.2.1 fun v28 =>
pFieldA v28 16 fun v29 =>
pLoad1 h25 v29 fun v30 =>
pCall c (.fn 51 [] []) [v30] h25 fun v31 h32 =>
pInt .neq v31 (.int .i64 (.ofNat 0)) fun v33 =>
pCond v33 (
pCall c (.fn 52 [] []) [s24.2.2.1, s24.2.1, s24.1] h32 fun _ h35 =>
j8 (()) h35 d26) (
j8 (()) h32 d26)) fun j27 =>
pNil a0 fun v36 =>
pFieldA v36 16 fun v37 =>
pLoad1 h23 v37 fun v38 =>
pCall c (.fn 49 [] []) [v38] h23 fun v39 h40 =>
pExtract v39 0 fun _ =>
pExtract v39 1 fun v42 =>
joinC (α := AV × AV × AV × AV × AV × Unit → AH → R) (fun s43 h44 =>
pPick s43.2.1 s43.1 (.bool false) fun v46 =>
pCond v46 (
pNil s43.2.2.2.2.1 fun v47 =>
pFieldA v47 17 fun v48 =>
pStore h44 v48 s43.2.2.1 1 fun h49 =>
j27 (s43.2.2.1, s43.2.2.2.1, s43.2.2.2.2.1, ()) h49 []) (
j27 (s43.2.2.1, s43.2.2.2.1, s43.2.2.2.2.1, ()) h44 [])) fun j45 =>
pWant v42 true (
pUn .not v17 fun v50 =>
j45 (v50, v42, a3, a2, a0, ()) h40) (
j45 (.undef, v42, a3, a2, a0, ()) h40)) (
pInt .eql v4 (.int .i64 (.ofNat 2)) fun v51 =>
pCond v51 (
pLoadN h1 v0 6 fun v52 =>
pCall c (.fn 53 [] []) [a0, v52, a2] h1 fun _ h54 =>
j8 (()) h54 []) (
pInt .eql v4 (.int .i64 (.ofNat 5)) fun v55 =>
pCond v55 (
joinC (α := AV × AV × Unit → AH → List Nat → R) (fun s56 h57 d58 =>
pFieldA s56.1 0 fun v60 =>
pLoad1 h57 v60 fun v61 =>
pCall c (.fn 54 [] []) [s56.2.1, v61] h57 fun _ h63 =>
j8 (()) h63 d58) fun j59 =>
pFieldA v0 5 fun v64 =>
pLoad1 h1 v64 fun v65 =>
pInt .neq v65 (.int .i64 (.ofNat 0)) fun v66 =>
pCond v66 (
pFieldA v0 0 fun v67 =>
pStore h1 v67 (.int .u64 (.ofNat 0)) 1 fun h68 =>
j59 (v0, a0, ()) h68 []) (
j59 (v0, a0, ()) h1 [])) (
j8 (()) h1 [])))
theorem S26_eq (c : CV) (a0 a1 a2 a3 : AV) (h : AH) : enterK Tryz.prog NN P26 c 26 [a0, a1, a2, a3] h = S26 c a0 a1 a2 a3 h := by kernel_rfl
def W26 (c : CV) (l : List AV) (h : AH) : R := match l with | [a0, a1, a2, a3] => S26 c a0 a1 a2 a3 h | _ => none
theorem W26_ok : WOk Tryz.prog 26 W26 := by
  intro c l h r e
  unfold W26 at e
  split at e
  · exact ⟨P26, by rw [S26_eq]; exact e⟩
  · cases e
/- (*quietus/thread.Thread).Wake -/
def P27 : Pl := (.n none .z (.n none .z (.n none (.n (some [19, 18, 17, 2, 1, 0]) (.n none .z (.n none .z (.n none (.n none (.n none .z (.n none (.n none (.r [[31, 27, 19, 18, 17, 2, 1, 0]]) .z) (.n (some []) (.n none .z (.n none .z (.n none (.r [[50, 45, 0]]) .z))) .z))) .z) .z))) .z) .z)))
def S27 (c : CV) (a0 a1 a2 : AV) (h : AH) : R :=
pNil a0 fun v0 =>
pFieldA v0 16 fun v1 =>
pLoad1 h v1 fun v2 =>
pEq .ptr false v2 .nilp fun v3 =>
pCond v3 (
some ((.tup []), h)) (
pNil a0 fun v4 =>
pFieldA v4 16 fun v5 =>
pLoad1 h v5 fun v6 =>
pCall c (.fn 55 [] []) [v6] h fun v7 h8 =>
pLenS v7 fun v9 =>
loopC (σ := AV × AV × AV × AV × AV × AV × Unit) NN (fun i13 s10 h11 d12 =>
pInt .lss s10.1 s10.2.1 fun v14 =>
pCond v14 (
pIdxS s10.2.2.1 s10.1 2 fun v15 =>
pLoadN h11 v15 2 fun v16 =>
pBox h11 106 (.agg [(.int .i64 (.ofNat 0)), (.int .u64 (.ofNat 0))]) fun v17 h18 =>
pStore h18 v17 v16 2 fun h19 =>
pFieldA v17 0 fun v20 =>
pLoad1 h19 v20 fun v21 =>
pInt .neq v21 s10.2.2.2.2.1 fun v22 =>
joinC (α := AV × AV × AV × AV × AV × AV × AV × AV × Unit → AH → R) (fun s23 h24 =>
pPick s23.2.1 (.bool true) s23.1 fun v26 =>
pCond v26 (
pInt .add s23.2.2.1 (.int .i64 (.ofNat 1)) fun v27 =>
i13 (v27, s23.2.2.2.1, s23.2.2.2.2.1, s23.2.2.2.2.2.1, s23.2.2.2.2.2.2.1, s23.2.2.2.2.2.2.2.1, ()) h24 d12) (
joinC (α := Unit → AH → List Nat → R) (fun _ h29 d30 =>
pLeave d30 h29 fun h32 =>
some ((.tup []), h32)) fun j31 =>
pNil s23.2.2.2.2.2.2.2.1 fun v33 =>
pFieldA v33 11 fun v34 =>
pLoad1 h24 v34 fun v35 =>
pInt .eql v35 (.int .i64 (.ofNat 4)) fun v36 =>
pCond v36 (
pCall c (.fn 48 [] []) [s23.2.2.2.2.2.2.2.1] h24 fun _ h38 =>
j31 (()) h38 d12) (
pNil s23.2.2.2.2.2.2.2.1 fun v39 =>
pFieldA v39 11 fun v40 =>
pLoad1 h24 v40 fun v41 =>
pInt .eql v41 (.int .i64 (.ofNat 1)) fun v42 =>
joinC (α := AV × AV × AV × Unit → AH → R) (fun s43 h44 =>
pPick s43.2.1 s43.1 (.bool false) fun v46 =>
pCond v46 (
pNil s43.2.2.1 fun v47 =>
pFieldA v47 18 fun v48 =>
pStore h44 v48 (.bool true) 1 fun h49 =>
j31 (()) h49 d12) (
j31 (()) h44 d12)) fun j45 =>
pWant v42 true (
pNil s23.2.2.2.2.2.2.2.1 fun v50 =>
pFieldA v50 16 fun v51 =>
pLoad1 h24 v51 fun v52 =>
pCall c (.fn 56 [] []) [v52] h24 fun v53 h54 =>
j45 (v53, v42, s23.2.2.2.2.2.2.2.1, ()) h54) (
j45 (.undef, v42, s23.2.2.2.2.2.2.2.1, ()) h24)))) fun j25 =>
pWant v22 false (
pFieldA v17 1 fun v55 =>
pLoad1 h19 v55 fun v56 =>
pInt .eql v56 s10.2.2.2.1 fun v57 =>
j25 (v57, v22, s10.1, s10.2.1, s10.2.2.1, s10.2.2.2.1, s10.2.2.2.2.1, s10.2.2.2.2.2.1, ()) h19) (
j25 (.undef, v22, s10.1, s10.2.1, s10.2.2.1, s10.2.2.2.1, s10.2.2.2.2.1, s10.2.2.2.2.2.1, ()) h19)) (
pLeave d12 h11 fun h58 =>
some ((.tup []), h58))) ((.int .i64 (.ofNat 0)), v9, v7, a2, a1, a0, ()) h8 [])
theorem S27_eq (c : CV) (a0 a1 a2 : AV) (h : AH) : enterK Tryz.prog NN P27 c 27 [a0, a1, a2] h = S27 c a0 a1 a2 h := by kernel_rfl
def W27 (c : CV) (l : List AV) (h : AH) : R := match l with | [a0, a1, a2] => S27 c a0 a1 a2 h | _ => none
theorem W27_ok : WOk Tryz.prog 27 W27 := by
  intro c l h r e
  unfold W27 at e
  split at e
  · exact ⟨P27, by rw [S27_eq]; exact e⟩
  · cases e
/- (*quietus/mem.Mem).Words -/
def P28 : Pl := .z
def S28 (c : CV) (a0 : AV) (h : AH) : R :=
pNil a0 fun v0 =>
pFieldA v0 5 fun v1 =>
pLoad1 h v1 fun v2 =>
pCall c (.fn 57 [] []) [v2] h fun v3 h4 =>
some (v3, h4)
theorem S28_eq (c : CV) (a0 : AV) (h : AH) : enterK Tryz.prog NN P28 c 28 [a0] h = S28 c a0 h := by kernel_rfl
def W28 (c : CV) (l : List AV) (h : AH) : R := match l with | [a0] => S28 c a0 h | _ => none
theorem W28_ok : WOk Tryz.prog 28 W28 := by
  intro c l h r e
  unfold W28 at e
  split at e
  · exact ⟨P28, by rw [S28_eq]; exact e⟩
  · cases e
/- (*quietus/machine.Machine).of -/
def P29 : Pl := (.n none .z (.n none (.n none (.r [[14, 7, 1, 0]]) .z) .z))
def S29 (_ : CV) (a0 a1 : AV) (h : AH) : R :=
pInt .lss a1 (.int .i64 (.ofNat 0)) fun v0 =>
joinC (α := AV × AV × AV × AV × Unit → AH → R) (fun s1 h2 =>
pPick s1.2.1 (.bool true) s1.1 fun v4 =>
pCond v4 (
some (.nilp, h2)) (
pNil s1.2.2.2.1 fun v5 =>
pFieldA v5 9 fun v6 =>
pLoad1 h2 v6 fun v7 =>
pIdxS v7 s1.2.2.1 1 fun v8 =>
pLoad1 h2 v8 fun v9 =>
some (v9, h2))) fun j3 =>
pWant v0 false (
pNil a0 fun v10 =>
pFieldA v10 9 fun v11 =>
pLoad1 h v11 fun v12 =>
pLenS v12 fun v13 =>
pInt .geq a1 v13 fun v14 =>
j3 (v14, v0, a1, a0, ()) h) (
j3 (.undef, v0, a1, a0, ()) h)
theorem S29_eq (c : CV) (a0 a1 : AV) (h : AH) : enterK Tryz.prog NN P29 c 29 [a0, a1] h = S29 c a0 a1 h := by kernel_rfl
def W29 (c : CV) (l : List AV) (h : AH) : R := match l with | [a0, a1] => S29 c a0 a1 h | _ => none
theorem W29_ok : WOk Tryz.prog 29 W29 := by
  intro c l h r e
  unfold W29 at e
  split at e
  · exact ⟨P29, by rw [S29_eq]; exact e⟩
  · cases e
/- (*quietus/thread.Thread).Results -/
def P30 : Pl := .z
def S30 (c : CV) (a0 : AV) (h : AH) : R :=
pNil a0 fun v0 =>
pFieldA v0 20 fun v1 =>
pLoad1 h v1 fun v2 =>
pCall c (.fn 58 [] []) [v2] h fun v3 h4 =>
some (v3, h4)
theorem S30_eq (c : CV) (a0 : AV) (h : AH) : enterK Tryz.prog NN P30 c 30 [a0] h = S30 c a0 h := by kernel_rfl
def W30 (c : CV) (l : List AV) (h : AH) : R := match l with | [a0] => S30 c a0 h | _ => none
theorem W30_ok : WOk Tryz.prog 30 W30 := by
  intro c l h r e
  unfold W30 at e
  split at e
  · exact ⟨P30, by rw [S30_eq]; exact e⟩
  · cases e
/- (*quietus/thread.Thread).State -/
def P31 : Pl := .z
def S31 (_ : CV) (a0 : AV) (h : AH) : R :=
pNil a0 fun v0 =>
pFieldA v0 11 fun v1 =>
pLoad1 h v1 fun v2 =>
some (v2, h)
theorem S31_eq (c : CV) (a0 : AV) (h : AH) : enterK Tryz.prog NN P31 c 31 [a0] h = S31 c a0 h := by kernel_rfl
def W31 (c : CV) (l : List AV) (h : AH) : R := match l with | [a0] => S31 c a0 h | _ => none
theorem W31_ok : WOk Tryz.prog 31 W31 := by
  intro c l h r e
  unfold W31 at e
  split at e
  · exact ⟨P31, by rw [S31_eq]; exact e⟩
  · cases e
/- (*quietus/mem.Mem).Now -/
def P32 : Pl := .z
def S32 (c : CV) (a0 : AV) (h : AH) : R :=
pNil a0 fun v0 =>
pFieldA v0 7 fun v1 =>
pLoad1 h v1 fun v2 =>
pCall c (.fn 59 [] []) [v2] h fun v3 h4 =>
some (v3, h4)
theorem S32_eq (c : CV) (a0 : AV) (h : AH) : enterK Tryz.prog NN P32 c 32 [a0] h = S32 c a0 h := by kernel_rfl
def W32 (c : CV) (l : List AV) (h : AH) : R := match l with | [a0] => S32 c a0 h | _ => none
theorem W32_ok : WOk Tryz.prog 32 W32 := by
  intro c l h r e
  unfold W32 at e
  split at e
  · exact ⟨P32, by rw [S32_eq]; exact e⟩
  · cases e
/- (*quietus/thread.Thread).Writing -/
def P33 : Pl := (.n none .z (.n none (.r [[13, 8]]) .z))
def S33 (c : CV) (a0 : AV) (h : AH) : R :=
pNil a0 fun v0 =>
pFieldA v0 11 fun v1 =>
pLoad1 h v1 fun v2 =>
pInt .eql v2 (.int .i64 (.ofNat 1)) fun v3 =>
joinC (α := AV × AV × Unit → AH → R) (fun s4 h5 =>
pPick s4.2.1 s4.1 (.bool false) fun v7 =>
some (v7, h5)) fun j6 =>
pWant v3 true (
pNil a0 fun v8 =>
pFieldA v8 16 fun v9 =>
pLoad1 h v9 fun v10 =>
pCall c (.fn 60 [] []) [v10] h fun v11 h12 =>
j6 (v11, v3, ()) h12) (
j6 (.undef, v3, ()) h)
theorem S33_eq (c : CV) (a0 : AV) (h : AH) : enterK Tryz.prog NN P33 c 33 [a0] h = S33 c a0 h := by kernel_rfl
def W33 (c : CV) (l : List AV) (h : AH) : R := match l with | [a0] => S33 c a0 h | _ => none
theorem W33_ok : WOk Tryz.prog 33 W33 := by
  intro c l h r e
  unfold W33 at e
  split at e
  · exact ⟨P33, by rw [S33_eq]; exact e⟩
  · cases e
/- (*quietus/thread.Thread).Attempts -/
def P34 : Pl := (.n none .z (.n none .z (.n none (.n none .z (.n none (.n (some [13, 12, 11, 3, 0]) .z .z) .z)) (.n (some [3]) .z .z))))
def S34 (c : CV) (a0 : AV) (h : AH) : R :=
pNil a0 fun v0 =>
pFieldA v0 19 fun v1 =>
pLoad1 h v1 fun v2 =>
pLenS v2 fun v3 =>
loopC (σ := AV × AV × AV × AV × AV × Unit) NN (fun i7 s4 h5 d6 =>
pInt .lss s4.1 s4.2.1 fun v8 =>
pCond v8 (
pIdxS s4.2.2.1 s4.1 14 fun v9 =>
pLoadN h5 v9 14 fun v10 =>
pBox h5 111 (.agg [(.int .i64 (.ofNat 0)), (.int .i64 (.ofNat 0)), (.int .i64 (.ofNat 0)), (.bool false), (.int .i64 (.ofNat 0)), (.int .i64 (.ofNat 0)), (.int .u64 (.ofNat 0)), (.int .u64 (.ofNat 0)), (.int .i64 (.ofNat 0)), (.int .i64 (.ofNat 0)), .nils, .nils, .nils, (.str [])]) fun v11 h12 =>
pStore h12 v11 v10 14 fun h13 =>
pLoadN h13 v11 14 fun v14 =>
pCall c (.fn 61 [] []) [v14] h13 fun v15 h16 =>
pBuildS h16 111 [(.int .i64 (.ofNat 0)), (.int .i64 (.ofNat 0)), (.int .i64 (.ofNat 0)), (.bool false), (.int .i64 (.ofNat 0)), (.int .i64 (.ofNat 0)), (.int .u64 (.ofNat 0)), (.int .u64 (.ofNat 0)), (.int .i64 (.ofNat 0)), (.int .i64 (.ofNat 0)), .nils, .nils, .nils, (.str [])] 1 [(0, 14, v15)] fun v17 h18 =>
pAppend h18 111 14 s4.2.2.2.1 v17 fun v19 h20 =>
pInt .add s4.1 (.int .i64 (.ofNat 1)) fun v21 =>
i7 (v21, s4.2.1, s4.2.2.1, v19, s4.2.2.2.2.1, ()) h20 d6) (
joinC (α := AV × Unit → AH → List Nat → R) (fun s22 h23 d24 =>
pLeave d24 h23 fun h26 =>
some (s22.1, h26)) fun j25 =>
pNil s4.2.2.2.2.1 fun v27 =>
pFieldA v27 11 fun v28 =>
pLoad1 h5 v28 fun v29 =>
pInt .eql v29 (.int .i64 (.ofNat 1)) fun v30 =>
pCond v30 (
pNil s4.2.2.2.2.1 fun v31 =>
pFieldA v31 16 fun v32 =>
pLoad1 h5 v32 fun v33 =>
pCall c (.fn 49 [] []) [v33] h5 fun v34 h35 =>
pExtract v34 0 fun _ =>
pExtract v34 1 fun v37 =>
pCond v37 (
pCall c (.fn 62 [] []) [s4.2.2.2.2.1, (.int .i64 (.ofNat 0))] h35 fun v38 h39 =>
pBuildS h39 111 [(.int .i64 (.ofNat 0)), (.int .i64 (.ofNat 0)), (.int .i64 (.ofNat 0)), (.bool false), (.int .i64 (.ofNat 0)), (.int .i64 (.ofNat 0)), (.int .u64 (.ofNat 0)), (.int .u64 (.ofNat 0)), (.int .i64 (.ofNat 0)), (.int .i64 (.ofNat 0)), .nils, .nils, .nils, (.str [])] 1 [(0, 14, v38)] fun v40 h41 =>
pAppend h41 111 14 s4.2.2.2.1 v40 fun v42 h43 =>
j25 (v42, ()) h43 d6) (
j25 (s4.2.2.2.1, ()) h35 d6)) (
j25 (s4.2.2.2.1, ()) h5 d6))) ((.int .i64 (.ofNat 0)), v3, v2, .nils, a0, ()) h []
theorem S34_eq (c : CV) (a0 : AV) (h : AH) : enterK Tryz.prog NN P34 c 34 [a0] h = S34 c a0 h := by kernel_rfl
def W34 (c : CV) (l : List AV) (h : AH) : R := match l with | [a0] => S34 c a0 h | _ => none
theorem W34_ok : WOk Tryz.prog 34 W34 := by
  intro c l h r e
  unfold W34 at e
  split at e
  · exact ⟨P34, by rw [S34_eq]; exact e⟩
  · cases e
/- (*quietus/mem.Mem).Locks -/
def P35 : Pl := .z
def S35 (c : CV) (a0 : AV) (h : AH) : R :=
pNil a0 fun v0 =>
pFieldA v0 6 fun v1 =>
pLoad1 h v1 fun v2 =>
pCall c (.fn 63 [] []) [v2] h fun v3 h4 =>
some (v3, h4)
theorem S35_eq (c : CV) (a0 : AV) (h : AH) : enterK Tryz.prog NN P35 c 35 [a0] h = S35 c a0 h := by kernel_rfl
def W35 (c : CV) (l : List AV) (h : AH) : R := match l with | [a0] => S35 c a0 h | _ => none
theorem W35_ok : WOk Tryz.prog 35 W35 := by
  intro c l h r e
  unfold W35 at e
  split at e
  · exact ⟨P35, by rw [S35_eq]; exact e⟩
  · cases e
/- (*quietus/mem.Mem).Slots -/
def P36 : Pl := .z
def S36 (c : CV) (a0 : AV) (h : AH) : R :=
pNil a0 fun v0 =>
pFieldA v0 8 fun v1 =>
pLoad1 h v1 fun v2 =>
pCall c (.fn 64 [] []) [v2] h fun v3 h4 =>
some (v3, h4)
theorem S36_eq (c : CV) (a0 : AV) (h : AH) : enterK Tryz.prog NN P36 c 36 [a0] h = S36 c a0 h := by kernel_rfl
def W36 (c : CV) (l : List AV) (h : AH) : R := match l with | [a0] => S36 c a0 h | _ => none
theorem W36_ok : WOk Tryz.prog 36 W36 := by
  intro c l h r e
  unfold W36 at e
  split at e
  · exact ⟨P36, by rw [S36_eq]; exact e⟩
  · cases e
/- (*quietus/thread.Thread).Limbo -/
def P37 : Pl := (.n none .z (.n none (.r [[2]]) .z))
def S37 (c : CV) (a0 : AV) (h : AH) : R :=
joinC (α := AV × Unit → AH → R) (fun s0 h1 =>
some (s0.1, h1)) fun j2 =>
pNil a0 fun v3 =>
pFieldA v3 21 fun v4 =>
pLoad1 h v4 fun v5 =>
pCall c (.fn 65 [] []) [v5] h fun v6 h7 =>
pNil a0 fun v8 =>
pFieldA v8 12 fun v9 =>
pFieldA v9 1 fun v10 =>
pLoad1 h7 v10 fun v11 =>
pAppend h7 145 2 v6 v11 fun v12 h13 =>
pChk v10 none v11 h h7 h.nx <|
j2 (v12, ()) h13
theorem S37_eq (c : CV) (a0 : AV) (h : AH) : enterK Tryz.prog NN P37 c 37 [a0] h = S37 c a0 h := by kernel_rfl
def W37 (c : CV) (l : List AV) (h : AH) : R := match l with | [a0] => S37 c a0 h | _ => none
theorem W37_ok : WOk Tryz.prog 37 W37 := by
  intro c l h r e
  unfold W37 at e
  split at e
  · exact ⟨P37, by rw [S37_eq]; exact e⟩
  · cases e
/- quietus/mem.Held -/
def P38 : Pl := .z
def S38 (_ : CV) (a0 : AV) (h : AH) : R :=
pBox h 24 a0 fun v0 h1 =>
pBox h1 24 (.agg [(.int .i64 (.ofNat 0)), (.int .i64 (.ofNat 0)), (.int .i64 (.ofNat 0)), (.int .i64 (.ofNat 0)), (.int .u64 (.ofNat 0))]) fun v2 h3 =>
pFieldA v0 0 fun v4 =>
pLoad1 h3 v4 fun v5 =>
pMM false [v5, (.int .i64 (.ofNat 256))] fun v6 =>
pMM true [(.int .i64 (.ofNat 32)), v6] fun v7 =>
pFieldA v0 1 fun v8 =>
pLoad1 h3 v8 fun v9 =>
pMM false [v9, (.int .i64 (.ofNat 16))] fun v10 =>
pMM true [(.int .i64 (.ofNat 1)), v10] fun v11 =>
pFieldA v0 2 fun v12 =>
pLoad1 h3 v12 fun v13 =>
pMM false [v13, (.int .i64 (.ofNat 16))] fun v14 =>
pMM true [(.int .i64 (.ofNat 1)), v14] fun v15 =>
pFieldA v0 3 fun v16 =>
pLoad1 h3 v16 fun v17 =>
pMM false [v17, (.int .i64 (.ofNat 4))] fun v18 =>
pMM true [(.int .i64 (.ofNat 1)), v18] fun v19 =>
pFieldA v0 4 fun v20 =>
pLoad1 h3 v20 fun v21 =>
pMM false [v21, (.int .u64 (.ofNat 4611686018427387903))] fun v22 =>
pBuild [(.int .i64 (.ofNat 0)), (.int .i64 (.ofNat 0)), (.int .i64 (.ofNat 0)), (.int .i64 (.ofNat 0)), (.int .u64 (.ofNat 0))] [(0, 1, v7), (1, 1, v11), (2, 1, v15), (3, 1, v19), (4, 1, v22)] fun v23 =>
pStore h3 v2 v23 5 fun h24 =>
pLoadN h24 v2 5 fun v25 =>
some (v25, h24)
theorem S38_eq (c : CV) (a0 : AV) (h : AH) : enterK Tryz.prog NN P38 c 38 [a0] h = S38 c a0 h := by kernel_rfl
def W38 (c : CV) (l : List AV) (h : AH) : R := match l with | [a0] => S38 c a0 h | _ => none
theorem W38_ok : WOk Tryz.prog 38 W38 := by
  intro c l h r e
  unfold W38 at e
  split at e
  · exact ⟨P38, by rw [S38_eq]; exact e⟩
  · cases e
/- quietus/heap.New -/
def P39 : Pl := .z
def S39 (_ : CV) (a0 : AV) (h : AH) : R :=
pMM false [a0, (.int .i64 (.ofNat 256))] fun v0 =>
pMM true [(.int .i64 (.ofNat 32)), v0] fun v1 =>
pMake h 22 [(.int .u64 (.ofNat 0))] v1 v1 fun v2 h3 =>
pBuild [.nils] [(0, 1, v2)] fun v4 =>
pBox h3 115 v4 fun v5 h6 =>
some (v5, h6)
theorem S39_eq (c : CV) (a0 : AV) (h : AH) : enterK Tryz.prog NN P39 c 39 [a0] h = S39 c a0 h := by kernel_rfl
def W39 (c : CV) (l : List AV) (h : AH) : R := match l with | [a0] => S39 c a0 h | _ => none
theorem W39_ok : WOk Tryz.prog 39 W39 := by
  intro c l h r e
  unfold W39 at e
  split at e
  · exact ⟨P39, by rw [S39_eq]; exact e⟩
  · cases e
/- quietus/stripe.New -/
def P40 : Pl := .z
def S40 (c : CV) (a0 a1 : AV) (h : AH) : R :=
pCall c (.fn 66 [] []) [a0, (.int .i64 (.ofNat 16))] h fun v0 h1 =>
pMake h1 60 [(.int .u64 (.ofNat 0)), (.bool false), (.int .i64 (.ofNat 0))] v0 v0 fun v2 h3 =>
pCall c (.fn 66 [] []) [a1, (.int .i64 (.ofNat 16))] h3 fun v4 h5 =>
pBuild [.nils, (.int .i64 (.ofNat 0))] [(0, 1, v2), (1, 1, v4)] fun v6 =>
pBox h5 118 v6 fun v7 h8 =>
some (v7, h8)
theorem S40_eq (c : CV) (a0 a1 : AV) (h : AH) : enterK Tryz.prog NN P40 c 40 [a0, a1] h = S40 c a0 a1 h := by kernel_rfl
def W40 (c : CV) (l : List AV) (h : AH) : R := match l with | [a0, a1] => S40 c a0 a1 h | _ => none
theorem W40_ok : WOk Tryz.prog 40 W40 := by
  intro c l h r e
  unfold W40 at e
  split at e
  · exact ⟨P40, by rw [S40_eq]; exact e⟩
  · cases e
/- quietus/clock.New -/
def P41 : Pl := .z
def S41 (_ : CV) (a0 : AV) (h : AH) : R :=
pMM false [a0, (.int .u64 (.ofNat 4611686018427387903))] fun v0 =>
pBuild [(.int .u64 (.ofNat 0))] [(0, 1, v0)] fun v1 =>
pBox h 120 v1 fun v2 h3 =>
some (v2, h3)
theorem S41_eq (c : CV) (a0 : AV) (h : AH) : enterK Tryz.prog NN P41 c 41 [a0] h = S41 c a0 h := by kernel_rfl
def W41 (c : CV) (l : List AV) (h : AH) : R := match l with | [a0] => S41 c a0 h | _ => none
theorem W41_ok : WOk Tryz.prog 41 W41 := by
  intro c l h r e
  unfold W41 at e
  split at e
  · exact ⟨P41, by rw [S41_eq]; exact e⟩
  · cases e
/- quietus/epoch.New -/
def P42 : Pl := .z
def S42 (_ : CV) (a0 : AV) (h : AH) : R :=
pMM false [a0, (.int .i64 (.ofNat 4))] fun v0 =>
pMM true [(.int .i64 (.ofNat 1)), v0] fun v1 =>
pMake h 22 [(.int .u64 (.ofNat 0))] v1 v1 fun v2 h3 =>
pBuild [.nils] [(0, 1, v2)] fun v4 =>
pBox h3 122 v4 fun v5 h6 =>
some (v5, h6)
theorem S42_eq (c : CV) (a0 : AV) (h : AH) : enterK Tryz.prog NN P42 c 42 [a0] h = S42 c a0 h := by kernel_rfl
def W42 (c : CV) (l : List AV) (h : AH) : R := match l with | [a0] => S42 c a0 h | _ => none
theorem W42_ok : WOk Tryz.prog 42 W42 := by
  intro c l h r e
  unfold W42 at e
  split at e
  · exact ⟨P42, by rw [S42_eq]; exact e⟩
  · cases e
/- (*quietus/mem.Mem).do -/
def P43 : Pl := (.n none .z (.n none .z (.n none (.n none .z (.n (some [5, 4]) .z .z)) .z)))
def S43 (c : CV) (a0 a1 : AV) (h : AH) : R :=
pBox h 62 a1 fun v0 h1 =>
pBox h1 67 (.agg [(.int .u64 (.ofNat 0)), (.int .u64 (.ofNat 0)), (.bool false), (.int .i64 (.ofNat 0)), (.bool false), (.int .i64 (.ofNat 0))]) fun v2 h3 =>
pBox h3 67 (.agg [(.int .u64 (.ofNat 0)), (.int .u64 (.ofNat 0)), (.bool false), (.int .i64 (.ofNat 0)), (.bool false), (.int .i64 (.ofNat 0))]) fun v4 h5 =>
pFieldA v0 0 fun v6 =>
pLoad1 h5 v6 fun v7 =>
joinC (α := AV × AV × Unit → AH → List Nat → R) (fun s8 h9 d10 =>
pLoadN h9 s8.1 6 fun v12 =>
pStore h9 s8.2.1 v12 6 fun h13 =>
pLeave d10 h13 fun h14 =>
pLoadN h14 s8.2.1 6 fun v15 =>
some (v15, h14)) fun j11 =>
pInt .eql v7 (.int .i64 (.ofNat 1)) fun v16 =>
pCond v16 (
pNil a0 fun v17 =>
pFieldA v17 5 fun v18 =>
pLoad1 h5 v18 fun v19 =>
pFieldA v0 1 fun v20 =>
pLoad1 h5 v20 fun v21 =>
pCall c (.fn 67 [] []) [v19, v21] h5 fun v22 h23 =>
pExtract v22 0 fun v24 =>
pExtract v22 1 fun v25 =>
pFieldA v4 0 fun v26 =>
pStore h23 v26 v24 1 fun h27 =>
pFieldA v4 5 fun v28 =>
pStore h27 v28 v25 1 fun h29 =>
j11 (v4, v2, ()) h29 []) (
pInt .eql v7 (.int .i64 (.ofNat 2)) fun v30 =>
pCond v30 (
pNil a0 fun v31 =>
pFieldA v31 5 fun v32 =>
pLoad1 h5 v32 fun v33 =>
pFieldA v0 1 fun v34 =>
pLoad1 h5 v34 fun v35 =>
pFieldA v0 3 fun v36 =>
pLoad1 h5 v36 fun v37 =>
pCall c (.fn 68 [] []) [v33, v35, v37] h5 fun v38 h39 =>
pFieldA v4 5 fun v40 =>
pStore h39 v40 v38 1 fun h41 =>
j11 (v4, v2, ()) h41 []) (
pInt .eql v7 (.int .i64 (.ofNat 3)) fun v42 =>
pCond v42 (
pNil a0 fun v43 =>
pFieldA v43 6 fun v44 =>
pLoad1 h5 v44 fun v45 =>
pFieldA v0 1 fun v46 =>
pLoad1 h5 v46 fun v47 =>
pCall c (.fn 69 [] []) [v45, v47] h5 fun v48 h49 =>
pExtract v48 0 fun v50 =>
pExtract v48 1 fun v51 =>
pFieldA v4 1 fun v52 =>
pStore h49 v52 v50 3 fun h53 =>
pFieldA v4 5 fun v54 =>
pStore h53 v54 v51 1 fun h55 =>
j11 (v4, v2, ()) h55 []) (
pInt .eql v7 (.int .i64 (.ofNat 4)) fun v56 =>
pCond v56 (
pNil a0 fun v57 =>
pFieldA v57 6 fun v58 =>
pLoad1 h5 v58 fun v59 =>
pFieldA v0 1 fun v60 =>
pLoad1 h5 v60 fun v61 =>
pFieldA v0 4 fun v62 =>
pLoadN h5 v62 3 fun v63 =>
pFieldA v0 7 fun v64 =>
pLoadN h5 v64 3 fun v65 =>
pCall c (.fn 70 [] []) [v59, v61, v63, v65] h5 fun v66 h67 =>
pExtract v66 0 fun v68 =>
pExtract v66 1 fun v69 =>
pFieldA v4 4 fun v70 =>
pStore h67 v70 v68 1 fun h71 =>
pFieldA v4 5 fun v72 =>
pStore h71 v72 v69 1 fun h73 =>
j11 (v4, v2, ()) h73 []) (
pInt .eql v7 (.int .i64 (.ofNat 5)) fun v74 =>
pCond v74 (
pNil a0 fun v75 =>
pFieldA v75 6 fun v76 =>
pLoad1 h5 v76 fun v77 =>
pFieldA v0 1 fun v78 =>
pLoad1 h5 v78 fun v79 =>
pFieldA v0 7 fun v80 =>
pLoadN h5 v80 3 fun v81 =>
pCall c (.fn 71 [] []) [v77, v79, v81] h5 fun v82 h83 =>
pFieldA v4 5 fun v84 =>
pStore h83 v84 v82 1 fun h85 =>
j11 (v4, v2, ()) h85 []) (
pInt .eql v7 (.int .i64 (.ofNat 6)) fun v86 =>
pCond v86 (
pNil a0 fun v87 =>
pFieldA v87 7 fun v88 =>
pLoad1 h5 v88 fun v89 =>
pCall c (.fn 59 [] []) [v89] h5 fun v90 h91 =>
pFieldA v4 0 fun v92 =>
pStore h91 v92 v90 1 fun h93 =>
j11 (v4, v2, ()) h93 []) (
pInt .eql v7 (.int .i64 (.ofNat 7)) fun v94 =>
pCond v94 (
pNil a0 fun v95 =>
pFieldA v95 7 fun v96 =>
pLoad1 h5 v96 fun v97 =>
pFieldA v0 2 fun v98 =>
pLoad1 h5 v98 fun v99 =>
pFieldA v0 3 fun v100 =>
pLoad1 h5 v100 fun v101 =>
pCall c (.fn 72 [] []) [v97, v99, v101] h5 fun v102 h103 =>
pExtract v102 0 fun v104 =>
pExtract v102 1 fun v105 =>
pFieldA v4 4 fun v106 =>
pStore h103 v106 v104 1 fun h107 =>
pFieldA v4 5 fun v108 =>
pStore h107 v108 v105 1 fun h109 =>
j11 (v4, v2, ()) h109 []) (
pInt .eql v7 (.int .i64 (.ofNat 8)) fun v110 =>
pCond v110 (
pNil a0 fun v111 =>
pFieldA v111 8 fun v112 =>
pLoad1 h5 v112 fun v113 =>
pFieldA v0 1 fun v114 =>
pLoad1 h5 v114 fun v115 =>
pCall c (.fn 73 [] []) [v113, v115] h5 fun v116 h117 =>
pExtract v116 0 fun v118 =>
pExtract v116 1 fun v119 =>
pFieldA v4 0 fun v120 =>
pStore h117 v120 v118 1 fun h121 =>
pFieldA v4 5 fun v122 =>
pStore h121 v122 v119 1 fun h123 =>
j11 (v4, v2, ()) h123 []) (
pInt .eql v7 (.int .i64 (.ofNat 9)) fun v124 =>
pCond v124 (
pNil a0 fun v125 =>
pFieldA v125 8 fun v126 =>
pLoad1 h5 v126 fun v127 =>
pFieldA v0 1 fun v128 =>
pLoad1 h5 v128 fun v129 =>
pFieldA v0 3 fun v130 =>
pLoad1 h5 v130 fun v131 =>
pCall c (.fn 74 [] []) [v127, v129, v131] h5 fun v132 h133 =>
pFieldA v4 5 fun v134 =>
pStore h133 v134 v132 1 fun h135 =>
j11 (v4, v2, ()) h135 []) (
pFieldA v4 5 fun v136 =>
pStore h5 v136 (.int .i64 (.ofNat 1)) 1 fun h137 =>
j11 (v4, v2, ()) h137 [])))))))))
theorem S43_eq (c : CV) (a0 a1 : AV) (h : AH) : enterK Tryz.prog NN P43 c 43 [a0, a1] h = S43 c a0 a1 h := by kernel_rfl
def W43 (c : CV) (l : List AV) (h : AH) : R := match l with | [a0, a1] => S43 c a0 a1 h | _ => none
theorem W43_ok : WOk Tryz.prog 43 W43 := by
  intro c l h r e
  unfold W43 at e
  split at e
  · exact ⟨P43, by rw [S43_eq]; exact e⟩
  · cases e
/- quietus/limbo.New -/
def P44 : Pl := .z
def S44 (_ : CV) (h : AH) : R :=
pBuild [.nils] [] fun v0 =>
pBox h 133 v0 fun v1 h2 =>
some (v1, h2)
theorem S44_eq (c : CV) (h : AH) : enterK Tryz.prog NN P44 c 44 [] h = S44 c h := by kernel_rfl
def W44 (c : CV) (l : List AV) (h : AH) : R := match l with | [] => S44 c h | _ => none
theorem W44_ok : WOk Tryz.prog 44 W44 := by
  intro c l h r e
  unfold W44 at e
  split at e
  · exact ⟨P44, by rw [S44_eq]; exact e⟩
  · cases e
/- slices.Clone[[]quietus/api.Ins,quietus/api.Ins] -/
def P45 : Pl := .z
def S45 (_ : CV) (a0 : AV) (h : AH) : R :=
pEq .slc false a0 .nils fun v0 =>
pCond v0 (
some (.nils, h)) (
pBuildS h 28 [(.int .i64 (.ofNat 0)), (.int .i64 (.ofNat 0)), (.int .i64 (.ofNat 0)), (.int .i64 (.ofNat 0)), (.int .u64 (.ofNat 0))] 0 [] fun v1 h2 =>
pAppend h2 28 5 v1 a0 fun v3 h4 =>
some (v3, h4))
theorem S45_eq (c : CV) (a0 : AV) (h : AH) : enterK Tryz.prog NN P45 c 45 [a0] h = S45 c a0 h := by kernel_rfl
def W45 (c : CV) (l : List AV) (h : AH) : R := match l with | [a0] => S45 c a0 h | _ => none
theorem W45_ok : WOk Tryz.prog 45 W45 := by
  intro c l h r e
  unfold W45 at e
  split at e
  · exact ⟨P45, by rw [S45_eq]; exact e⟩
  · cases e
/- (*quietus/thread.Thread).following -/
def P46 : Pl := .z
def S46 (c : CV) (a0 : AV) (h : AH) : R :=
pNil a0 fun v0 =>
pFieldA v0 10 fun v1 =>
pLoad1 h v1 fun v2 =>
pInt .add v2 (.int .i64 (.ofNat 1)) fun v3 =>
pNil a0 fun v4 =>
pFieldA v4 10 fun v5 =>
pStore h v5 v3 1 fun h6 =>
pBuild [(.bool false), .nils, (.int .i64 (.ofNat 0)), (.int .i64 (.ofNat 0))] [] fun v7 =>
pNil a0 fun v8 =>
pFieldA v8 12 fun v9 =>
pStore h6 v9 v7 4 fun h10 =>
pCall c (.fn 48 [] []) [a0] h10 fun _ h12 =>
some ((.tup []), h12)
theorem S46_eq (c : CV) (a0 : AV) (h : AH) : enterK Tryz.prog NN P46 c 46 [a0] h = S46 c a0 h := by kernel_rfl
def W46 (c : CV) (l : List AV) (h : AH) : R := match l with | [a0] => S46 c a0 h | _ => none
theorem W46_ok : WOk Tryz.prog 46 W46 := by
  intro c l h r e
  unfold W46 at e
  split at e
  · exact ⟨P46, by rw [S46_eq]; exact e⟩
  · cases e
/- (*quietus/attempt.Attempt).Next -/
def P47 : Pl := .z
def S47 (c : CV) (a0 : AV) (h : AH) : R :=
pBox h 62 (.agg [(.int .i64 (.ofNat 0)), (.int .i64 (.ofNat 0)), (.int .u64 (.ofNat 0)), (.int .u64 (.ofNat 0)), (.int .u64 (.ofNat 0)), (.bool false), (.int .i64 (.ofNat 0)), (.int .u64 (.ofNat 0)), (.bool false), (.int .i64 (.ofNat 0))]) fun v0 h1 =>
pNil a0 fun v2 =>
pFieldA v2 14 fun v3 =>
pLoad1 h1 v3 fun v4 =>
pInt .eql v4 (.int .i64 (.ofNat 0)) fun v5 =>
pCond v5 (
pNil a0 fun v6 =>
pFieldA v6 0 fun v7 =>
pLoad1 h1 v7 fun v8 =>
pBuild [(.int .i64 (.ofNat 0)), (.int .i64 (.ofNat 0)), (.int .u64 (.ofNat 0)), (.int .u64 (.ofNat 0)), (.int .u64 (.ofNat 0)), (.bool false), (.int .i64 (.ofNat 0)), (.int .u64 (.ofNat 0)), (.bool false), (.int .i64 (.ofNat 0))] [(0, 1, (.int .i64 (.ofNat 9))), (1, 1, v8), (3, 1, (.int .u64 (.ofNat 1)))] fun v9 =>
pStore h1 v0 v9 10 fun h10 =>
pLoadN h10 v0 10 fun v11 =>
some ((.tup [v11, (.bool true)]), h10)) (
pInt .eql v4 (.int .i64 (.ofNat 1)) fun v12 =>
pCond v12 (
pBuild [(.int .i64 (.ofNat 0)), (.int .i64 (.ofNat 0)), (.int .u64 (.ofNat 0)), (.int .u64 (.ofNat 0)), (.int .u64 (.ofNat 0)), (.bool false), (.int .i64 (.ofNat 0)), (.int .u64 (.ofNat 0)), (.bool false), (.int .i64 (.ofNat 0))] [(0, 1, (.int .i64 (.ofNat 6)))] fun v13 =>
pStore h1 v0 v13 10 fun h14 =>
pLoadN h14 v0 10 fun v15 =>
some ((.tup [v15, (.bool true)]), h14)) (
pInt .eql v4 (.int .i64 (.ofNat 2)) fun v16 =>
pCond v16 (
pNil a0 fun v17 =>
pFieldA v17 0 fun v18 =>
pLoad1 h1 v18 fun v19 =>
pNil a0 fun v20 =>
pFieldA v20 21 fun v21 =>
pLoad1 h1 v21 fun v22 =>
pInt .add v22 (.int .u64 (.ofNat 1)) fun v23 =>
pBuild [(.int .i64 (.ofNat 0)), (.int .i64 (.ofNat 0)), (.int .u64 (.ofNat 0)), (.int .u64 (.ofNat 0)), (.int .u64 (.ofNat 0)), (.bool false), (.int .i64 (.ofNat 0)), (.int .u64 (.ofNat 0)), (.bool false), (.int .i64 (.ofNat 0))] [(0, 1, (.int .i64 (.ofNat 9))), (1, 1, v19), (3, 1, v23)] fun v24 =>
pStore h1 v0 v24 10 fun h25 =>
pLoadN h25 v0 10 fun v26 =>
some ((.tup [v26, (.bool true)]), h25)) (
pInt .eql v4 (.int .i64 (.ofNat 7)) fun v27 =>
pCond v27 (
pNil a0 fun v28 =>
pFieldA v28 0 fun v29 =>
pLoad1 h1 v29 fun v30 =>
pBuild [(.int .i64 (.ofNat 0)), (.int .i64 (.ofNat 0)), (.int .u64 (.ofNat 0)), (.int .u64 (.ofNat 0)), (.int .u64 (.ofNat 0)), (.bool false), (.int .i64 (.ofNat 0)), (.int .u64 (.ofNat 0)), (.bool false), (.int .i64 (.ofNat 0))] [(0, 1, (.int .i64 (.ofNat 9))), (1, 1, v30)] fun v31 =>
pStore h1 v0 v31 10 fun h32 =>
pLoadN h32 v0 10 fun v33 =>
some ((.tup [v33, (.bool true)]), h32)) (
pInt .eql v4 (.int .i64 (.ofNat 8)) fun v34 =>
pCond v34 (
pBuild [(.int .i64 (.ofNat 0)), (.int .i64 (.ofNat 0)), (.int .u64 (.ofNat 0)), (.int .u64 (.ofNat 0)), (.int .u64 (.ofNat 0)), (.bool false), (.int .i64 (.ofNat 0)), (.int .u64 (.ofNat 0)), (.bool false), (.int .i64 (.ofNat 0))] [] fun v35 =>
pStore h1 v0 v35 10 fun h36 =>
pLoadN h36 v0 10 fun v37 =>
some ((.tup [v37, (.bool false)]), h36)) (
pNil a0 fun v38 =>
pFieldA v38 15 fun v39 =>
pLoad1 h1 v39 fun v40 =>
pInvoke c [(69, 24), (93, 47), (139, 360), (140, 368), (141, 371), (355, 303)] v40 [] h1 fun v41 h42 =>
pExtract v41 0 fun v43 =>
pExtract v41 1 fun v44 =>
pStore h42 v0 v43 10 fun h45 =>
pLoadN h45 v0 10 fun v46 =>
some ((.tup [v46, v44]), h45))))))
theorem S47_eq (c : CV) (a0 : AV) (h : AH) : enterK Tryz.prog NN P47 c 47 [a0] h = S47 c a0 h := by kernel_rfl
def W47 (c : CV) (l : List AV) (h : AH) : R := match l with | [a0] => S47 c a0 h | _ => none
theorem W47_ok : WOk Tryz.prog 47 W47 := by
  intro c l h r e
  unfold W47 at e
  split at e
  · exact ⟨P47, by rw [S47_eq]; exact e⟩
  · cases e
/- (*quietus/thread.Thread).again -/
def P48 : Pl := (.n none .z (.n none (.n (some [0]) (.n none .z (.n none .z (.n none .z (.n none (.n none .z (.n none (.n none .z (.n none (.n (some [62, 61, 60, 2, 0]) .z .z) .z)) .z)) .z)))) .z) .z))
def S48 (c : CV) (a0 : AV) (h : AH) : R :=
pNil a0 fun v0 =>
pFieldA v0 17 fun v1 =>
pStore h v1 (.int .i64 (.ofNat 0)) 1 fun h2 =>
pNil a0 fun v3 =>
pFieldA v3 18 fun v4 =>
pStore h2 v4 (.bool false) 1 fun h5 =>
joinC (α := AV × Unit → AH → List Nat → R) (fun s6 h7 d8 =>
pNil s6.1 fun v10 =>
pFieldA v10 11 fun v11 =>
pStore h7 v11 (.int .i64 (.ofNat 1)) 1 fun h12 =>
pLeave d8 h12 fun h13 =>
some ((.tup []), h13)) fun j9 =>
pNil a0 fun v14 =>
pFieldA v14 10 fun v15 =>
pLoad1 h5 v15 fun v16 =>
pNil a0 fun v17 =>
pFieldA v17 9 fun v18 =>
pLoad1 h5 v18 fun v19 =>
pLenS v19 fun v20 =>
pInt .eql v16 v20 fun v21 =>
pCond v21 (
pNil a0 fun v22 =>
pFieldA v22 11 fun v23 =>
pStore h5 v23 (.int .i64 (.ofNat 6)) 1 fun h24 =>
pNil a0 fun v25 =>
pFieldA v25 16 fun v26 =>
pStore h24 v26 .nilp 1 fun h27 =>
some ((.tup []), h27)) (
pNil a0 fun v28 =>
pFieldA v28 12 fun v29 =>
pFieldA v29 0 fun v30 =>
pLoad1 h5 v30 fun v31 =>
pCond v31 (
pNil a0 fun v32 =>
pFieldA v32 12 fun v33 =>
pFieldA v33 1 fun v34 =>
pLoad1 h5 v34 fun v35 =>
pLenS v35 fun v36 =>
loopC (σ := AV × AV × AV × AV × AV × Unit) NN (fun i40 s37 h38 d39 =>
pInt .lss s37.1 s37.2.1 fun v41 =>
pCond v41 (
pIdxS s37.2.2.1 s37.1 2 fun v42 =>
pLoadN h38 v42 2 fun v43 =>
pBox h38 145 (.agg [(.int .i64 (.ofNat 0)), (.int .u64 (.ofNat 0))]) fun v44 h45 =>
pStore h45 v44 v43 2 fun h46 =>
pFieldA v44 0 fun v47 =>
pLoad1 h46 v47 fun v48 =>
pBuildS h46 3 [(.int .i64 (.ofNat 0))] 1 [(0, 1, v48)] fun v49 h50 =>
pAppend h50 3 1 s37.2.2.2.1 v49 fun v51 h52 =>
pInt .add s37.1 (.int .i64 (.ofNat 1)) fun v53 =>
i40 (v53, s37.2.1, s37.2.2.1, v51, s37.2.2.2.2.1, ()) h52 d39) (
pNil s37.2.2.2.2.1 fun v54 =>
pFieldA v54 0 fun v55 =>
pLoad1 h38 v55 fun v56 =>
pNil s37.2.2.2.2.1 fun v57 =>
pFieldA v57 1 fun v58 =>
pLoadN h38 v58 8 fun v59 =>
pCall c (.fn 75 [] []) [v56, v59, s37.2.2.2.1] h38 fun v60 h61 =>
pNil s37.2.2.2.2.1 fun v62 =>
pFieldA v62 16 fun v63 =>
pStore h61 v63 v60 1 fun h64 =>
j9 (s37.2.2.2.2.1, ()) h64 d39)) ((.int .i64 (.ofNat 0)), v36, v35, .nils, a0, ()) h5 []) (
pNil a0 fun v65 =>
pFieldA v65 0 fun v66 =>
pLoad1 h5 v66 fun v67 =>
pNil a0 fun v68 =>
pFieldA v68 1 fun v69 =>
pLoadN h5 v69 8 fun v70 =>
pNil a0 fun v71 =>
pFieldA v71 9 fun v72 =>
pLoad1 h5 v72 fun v73 =>
pNil a0 fun v74 =>
pFieldA v74 10 fun v75 =>
pLoad1 h5 v75 fun v76 =>
pIdxS v73 v76 1 fun v77 =>
pLoadN h5 v77 1 fun v78 =>
pCall c (.fn 76 [] []) [v67, v70, v78] h5 fun v79 h80 =>
pNil a0 fun v81 =>
pFieldA v81 16 fun v82 =>
pStore h80 v82 v79 1 fun h83 =>
j9 (a0, ()) h83 []))
theorem S48_eq (c : CV) (a0 : AV) (h : AH) : enterK Tryz.prog NN P48 c 48 [a0] h = S48 c a0 h := by kernel_rfl
def W48 (c : CV) (l : List AV) (h : AH) : R := match l with | [a0] => S48 c a0 h | _ => none
theorem W48_ok : WOk Tryz.prog 48 W48 := by
  intro c l h r e
  unfold W48 at e
  split at e
  · exact ⟨P48, by rw [S48_eq]; exact e⟩
  · cases e
/- (*quietus/attempt.Attempt).Begin -/
def P49 : Pl := .z
def S49 (_ : CV) (a0 : AV) (h : AH) : R :=
pNil a0 fun v0 =>
pFieldA v0 20 fun v1 =>
pLoad1 h v1 fun v2 =>
pNil a0 fun v3 =>
pFieldA v3 19 fun v4 =>
pLoad1 h v4 fun v5 =>
some ((.tup [v2, v5]), h)
theorem S49_eq (c : CV) (a0 : AV) (h : AH) : enterK Tryz.prog NN P49 c 49 [a0] h = S49 c a0 h := by kernel_rfl
def W49 (c : CV) (l : List AV) (h : AH) : R := match l with | [a0] => S49 c a0 h | _ => none
theorem W49_ok : WOk Tryz.prog 49 W49 := by
  intro c l h r e
  unfold W49 at e
  split at e
  · exact ⟨P49, by rw [S49_eq]; exact e⟩
  · cases e
/- (*quietus/attempt.Attempt).Tell -/
def P50 : Pl := (.n none .z (.n none .z (.n none .z (.n none .z (.n (some []) (.n none .z (.n none .z (.n none .z (.n none (.n none (.r [[0]]) .z) .z)))) .z)))))
def S50 (c : CV) (a0 a1 : AV) (h : AH) : R :=
pBox h 67 a1 fun v0 h1 =>
pNil a0 fun v2 =>
pFieldA v2 14 fun v3 =>
pLoad1 h1 v3 fun v4 =>
pInt .eql v4 (.int .i64 (.ofNat 8)) fun v5 =>
pCond v5 (
some ((.tup []), h1)) (
pFieldA v0 5 fun v6 =>
pLoad1 h1 v6 fun v7 =>
pInt .neq v7 (.int .i64 (.ofNat 0)) fun v8 =>
pCond v8 (
pFieldA v0 5 fun v9 =>
pLoad1 h1 v9 fun v10 =>
pCall c (.fn 77 [] []) [a0, (.int .i64 (.ofNat 4)), v10, (.int .i64 (.negSucc 0))] h1 fun _ h12 =>
pNil a0 fun v13 =>
pFieldA v13 14 fun v14 =>
pStore h12 v14 (.int .i64 (.ofNat 8)) 1 fun h15 =>
some ((.tup []), h15)) (
pNil a0 fun v16 =>
pFieldA v16 14 fun v17 =>
pLoad1 h1 v17 fun v18 =>
joinC (α := Unit → AH → List Nat → R) (fun _ h20 d21 =>
pLeave d21 h20 fun h23 =>
some ((.tup []), h23)) fun j22 =>
pInt .eql v18 (.int .i64 (.ofNat 0)) fun v24 =>
pCond v24 (
pNil a0 fun v25 =>
pFieldA v25 14 fun v26 =>
pStore h1 v26 (.int .i64 (.ofNat 1)) 1 fun h27 =>
j22 (()) h27 []) (
pInt .eql v18 (.int .i64 (.ofNat 1)) fun v28 =>
pCond v28 (
joinC (α := AV × Unit → AH → R) (fun s29 h30 =>
pNil s29.1 fun v32 =>
pFieldA v32 14 fun v33 =>
pStore h30 v33 (.int .i64 (.ofNat 2)) 1 fun h34 =>
j22 (()) h34 []) fun j31 =>
pFieldA v0 0 fun v35 =>
pLoad1 h1 v35 fun v36 =>
pFieldA v0 0 fun v37 =>
pLoad1 h1 v37 fun v38 =>
pNil a0 fun v39 =>
pFieldA v39 19 fun v40 =>
pStore h1 v40 (.bool true) 1 fun h41 =>
pNil a0 fun v42 =>
pFieldA v42 20 fun v43 =>
pStore h41 v43 v36 1 fun h44 =>
pNil a0 fun v45 =>
pFieldA v45 21 fun v46 =>
pStore h44 v46 v38 1 fun h47 =>
pChk v37 none v38 h41 h44 h1.nx <|
pChk v37 none v38 h1 h41 h1.nx <|
pChk v35 none v36 h1 h41 h1.nx <|
j31 (a0, ()) h47) (
pInt .eql v18 (.int .i64 (.ofNat 2)) fun v48 =>
pCond v48 (
pCall c (.fn 78 [] []) [a0] h1 fun _ h50 =>
j22 (()) h50 []) (
pInt .eql v18 (.int .i64 (.ofNat 7)) fun v51 =>
pCond v51 (
pNil a0 fun v52 =>
pFieldA v52 14 fun v53 =>
pStore h1 v53 (.int .i64 (.ofNat 8)) 1 fun h54 =>
j22 (()) h54 []) (
pNil a0 fun v55 =>
pFieldA v55 15 fun v56 =>
pLoad1 h1 v56 fun v57 =>
pLoadN h1 v0 6 fun v58 =>
pInvoke c [(69, 26), (93, 50), (139, 361), (140, 369), (141, 372)] v57 [v58] h1 fun _ h60 =>
pCall c (.fn 79 [] []) [a0] h60 fun _ h62 =>
j22 (()) h62 []))))))
theorem S50_eq (c : CV) (a0 a1 : AV) (h : AH) : enterK Tryz.prog NN P50 c 50 [a0, a1] h = S50 c a0 a1 h := by kernel_rfl
def W50 (c : CV) (l : List AV) (h : AH) : R := match l with | [a0, a1] => S50 c a0 a1 h | _ => none
theorem W50_ok : WOk Tryz.prog 50 W50 := by
  intro c l h r e
  unfold W50 at e
  split at e
  · exact ⟨P50, by rw [S50_eq]; exact e⟩
  · cases e
/- (*quietus/attempt.Attempt).End -/
def P51 : Pl := .z
def S51 (_ : CV) (a0 : AV) (h : AH) : R :=
pNil a0 fun v0 =>
pFieldA v0 14 fun v1 =>
pLoad1 h v1 fun v2 =>
pInt .neq v2 (.int .i64 (.ofNat 8)) fun v3 =>
pCond v3 (
some ((.int .i64 (.ofNat 0)), h)) (
pNil a0 fun v4 =>
pFieldA v4 22 fun v5 =>
pLoad1 h v5 fun v6 =>
some (v6, h))
theorem S51_eq (c : CV) (a0 : AV) (h : AH) : enterK Tryz.prog NN P51 c 51 [a0] h = S51 c a0 h := by kernel_rfl
def W51 (c : CV) (l : List AV) (h : AH) : R := match l with | [a0] => S51 c a0 h | _ => none
theorem W51_ok : WOk Tryz.prog 51 W51 := by
  intro c l h r e
  unfold W51 at e
  split at e
  · exact ⟨P51, by rw [S51_eq]; exact e⟩
  · cases e
/- (*quietus/thread.Thread).ended -/
def P52 : Pl := (.n none .z (.n none (.r [[6, 1, 0]]) (.n none .z (.n (some []) (.n none .z (.n none (.n none .z (.n none (.n none (.r [[87, 6, 1, 0]]) .z) .z)) (.n none .z (.n none .z (.n none .z (.n none .z (.n none (.r [[6, 0]]) (.n none (.r [[0]]) .z)))))))) .z))))
def S52 (c : CV) (a0 a1 a2 : AV) (h : AH) : R :=
pNil a0 fun v0 =>
pFieldA v0 16 fun v1 =>
pLoad1 h v1 fun v2 =>
joinC (α := AV × AV × AV × Unit → AH → R) (fun s3 h4 =>
pNil s3.2.2.1 fun v6 =>
pFieldA v6 12 fun v7 =>
pFieldA v7 2 fun v8 =>
pLoad1 h4 v8 fun v9 =>
pInt .add v9 (.int .i64 (.ofNat 1)) fun v10 =>
pNil s3.2.2.1 fun v11 =>
pFieldA v11 12 fun v12 =>
pFieldA v12 2 fun v13 =>
pStore h4 v13 v10 1 fun h14 =>
joinC (α := Unit → AH → List Nat → R) (fun _ h16 d17 =>
pLeave d17 h16 fun h19 =>
some ((.tup []), h19)) fun j18 =>
pCall c (.fn 51 [] []) [s3.1] h14 fun v20 h21 =>
pInt .eql v20 (.int .i64 (.ofNat 5)) fun v22 =>
pCond v22 (
pNil s3.2.2.1 fun v23 =>
pFieldA v23 12 fun v24 =>
pFieldA v24 3 fun v25 =>
pLoad1 h21 v25 fun v26 =>
pInt .add v26 (.int .i64 (.ofNat 1)) fun v27 =>
pNil s3.2.2.1 fun v28 =>
pFieldA v28 12 fun v29 =>
pFieldA v29 3 fun v30 =>
pStore h21 v30 v27 1 fun h31 =>
joinC (α := AV × AV × AV × AV × Unit → AH → R) (fun s32 h33 =>
pCond s32.1 (
pCall c (.fn 80 [] []) [s32.2.1] h33 fun v35 h36 =>
pNil s32.2.2.2.1 fun v37 =>
pFieldA v37 11 fun v38 =>
pStore h36 v38 (.int .i64 (.ofNat 2)) 1 fun h39 =>
pNil s32.2.2.2.1 fun v40 =>
pFieldA v40 23 fun v41 =>
pStore h39 v41 v35 1 fun h42 =>
pNil s32.2.2.2.1 fun v43 =>
pFieldA v43 25 fun v44 =>
pStore h42 v44 (.bool false) 1 fun h45 =>
some ((.tup []), h45)) (
pCall c (.fn 81 [] []) [s32.2.2.2.1, s32.2.2.1] h33 fun _ h47 =>
j18 (()) h47 [])) fun j34 =>
pCall c (.fn 80 [] []) [s3.1] h31 fun v48 h49 =>
pInt .geq v48 (.int .i64 (.ofNat 0)) fun v50 =>
pWant v50 true (
pCall c (.fn 80 [] []) [s3.1] h49 fun v51 h52 =>
pNil s3.2.2.1 fun v53 =>
pFieldA v53 1 fun v54 =>
pFieldA v54 0 fun v55 =>
pFieldA v55 3 fun v56 =>
pLoad1 h52 v56 fun v57 =>
pInt .lss v51 v57 fun v58 =>
pPick v50 v58 (.bool false) fun v59 =>
pChk v56 none v57 h49 h52 h31.nx <|
j34 (v59, s3.1, s3.2.1, s3.2.2.1, ()) h52) (
pPick v50 .undef (.bool false) fun v60 =>
j34 (v60, s3.1, s3.2.1, s3.2.2.1, ()) h49)) (
pCall c (.fn 51 [] []) [s3.1] h21 fun v61 h62 =>
pInt .eql v61 (.int .i64 (.ofNat 3)) fun v63 =>
pCond v63 (
pNil s3.2.2.1 fun v64 =>
pFieldA v64 18 fun v65 =>
pLoad1 h62 v65 fun v66 =>
pCond v66 (
pCall c (.fn 48 [] []) [s3.2.2.1] h62 fun _ h68 =>
some ((.tup []), h68)) (
pNil s3.2.2.1 fun v69 =>
pFieldA v69 11 fun v70 =>
pStore h62 v70 (.int .i64 (.ofNat 4)) 1 fun h71 =>
j18 (()) h71 [])) (
pNil s3.2.2.1 fun v72 =>
pFieldA v72 12 fun v73 =>
pFieldA v73 0 fun v74 =>
pLoad1 h62 v74 fun v75 =>
pCond v75 (
pCall c (.fn 51 [] []) [s3.1] h62 fun v76 h77 =>
pCall c (.fn 82 [] []) [s3.2.2.1, v76] h77 fun _ h79 =>
j18 (()) h79 []) (
joinC (α := AV × AV × Unit → AH → R) (fun s80 h81 =>
joinC (α := AV × Unit → AH → R) (fun s83 h84 =>
pCall c (.fn 88 [] []) [s83.1] h84 fun _ h87 =>
j18 (()) h87 []) fun j85 =>
pNil s80.2.1 fun v88 =>
pFieldA v88 21 fun v89 =>
pLoad1 h81 v89 fun v90 =>
pCall c (.fn 85 [] []) [s80.1] h81 fun v91 h92 =>
pCall c (.fn 87 [] []) [s80.1] h92 fun v93 h94 =>
pCall c (.fn 86 [] []) [v90, v91, v93] h94 fun _ h96 =>
pChk v89 none v90 h92 h94 h81.nx <|
pChk v89 none v90 h81 h92 h81.nx <|
j85 (s80.2.1, ()) h96) fun j82 =>
pNil s3.2.2.1 fun v97 =>
pFieldA v97 20 fun v98 =>
pLoad1 h62 v98 fun v99 =>
pCall c (.fn 51 [] []) [s3.1] h62 fun v100 h101 =>
pCall c (.fn 83 [] []) [s3.1] h101 fun v102 h103 =>
pCall c (.fn 84 [] []) [s3.1] h103 fun v104 h105 =>
pCall c (.fn 85 [] []) [s3.1] h105 fun v106 h107 =>
pBuild [(.int .i64 (.ofNat 0)), (.int .i64 (.ofNat 0)), (.str []), (.int .u64 (.ofNat 0))] [(0, 1, v100), (1, 1, v102), (2, 1, v104), (3, 1, v106)] fun v108 =>
pBuildS h107 44 [(.int .i64 (.ofNat 0)), (.int .i64 (.ofNat 0)), (.str []), (.int .u64 (.ofNat 0))] 1 [(0, 4, v108)] fun v109 h110 =>
pAppend h110 44 4 v99 v109 fun v111 h112 =>
pNil s3.2.2.1 fun v113 =>
pFieldA v113 20 fun v114 =>
pStore h112 v114 v111 1 fun h115 =>
pChk v98 none v99 h105 h107 h62.nx <|
pChk v98 none v99 h103 h105 h62.nx <|
pChk v98 none v99 h101 h103 h62.nx <|
pChk v98 none v99 h62 h101 h62.nx <|
j82 (s3.1, s3.2.2.1, ()) h115)))) fun j5 =>
pNil a0 fun v116 =>
pFieldA v116 19 fun v117 =>
pLoad1 h v117 fun v118 =>
pCall c (.fn 62 [] []) [a0, a2] h fun v119 h120 =>
pBuildS h120 111 [(.int .i64 (.ofNat 0)), (.int .i64 (.ofNat 0)), (.int .i64 (.ofNat 0)), (.bool false), (.int .i64 (.ofNat 0)), (.int .i64 (.ofNat 0)), (.int .u64 (.ofNat 0)), (.int .u64 (.ofNat 0)), (.int .i64 (.ofNat 0)), (.int .i64 (.ofNat 0)), .nils, .nils, .nils, (.str [])] 1 [(0, 14, v119)] fun v121 h122 =>
pAppend h122 111 14 v118 v121 fun v123 h124 =>
pNil a0 fun v125 =>
pFieldA v125 19 fun v126 =>
pStore h124 v126 v123 1 fun h127 =>
pChk v117 none v118 h h120 h.nx <|
j5 (v2, a1, a0, ()) h127
theorem S52_eq (c : CV) (a0 a1 a2 : AV) (h : AH) : enterK Tryz.prog NN P52 c 52 [a0, a1, a2] h = S52 c a0 a1 a2 h := by kernel_rfl
def W52 (c : CV) (l : List AV) (h : AH) : R := match l with | [a0, a1, a2] => S52 c a0 a1 a2 h | _ => none
theorem W52_ok : WOk Tryz.prog 52 W52 := by
  intro c l h r e
  unfold W52 at e
  split at e
  · exact ⟨P52, by rw [S52_eq]; exact e⟩
  · cases e
/- (*quietus/thread.Thread).yield -/
def P53 : Pl := (.n none .z (.n none (.n none (.r [[12, 9, 4, 2, 0], [20, 14, 4, 2, 0], [27, 20, 14, 4, 2, 0], [28, 14, 4, 2, 0]]) (.n none (.n none (.r [[]]) .z) .z)) .z))
def S53 (c : CV) (a0 a1 a2 : AV) (h : AH) : R :=
pBox h 67 a1 fun v0 h1 =>
pFieldA v0 5 fun v2 =>
pLoad1 h1 v2 fun v3 =>
pInt .eql v3 (.int .i64 (.ofNat 0)) fun v4 =>
joinC (α := AV × AV × AV × AV × AV × Unit → AH → R) (fun s5 h6 =>
pPick s5.2.1 s5.1 (.bool false) fun v8 =>
joinC (α := AV × AV × AV × AV × AV × Unit → AH → R) (fun s9 h10 =>
joinC (α := AV × AV × AV × AV × AV × AV × Unit → AH → R) (fun s12 h13 =>
joinC (α := AV × AV × AV × AV × AV × Unit → AH → R) (fun s15 h16 =>
pPick s15.2.1 s15.1 (.bool false) fun v18 =>
pCond v18 (
joinC (α := Unit → AH → R) (fun _ h20 =>
some ((.tup []), h20)) fun j21 =>
pFieldA s15.2.2.1 0 fun v22 =>
pLoad1 h16 v22 fun v23 =>
pNil s15.2.2.2.2.1 fun v24 =>
pFieldA v24 25 fun v25 =>
pStore h16 v25 (.bool true) 1 fun h26 =>
pNil s15.2.2.2.2.1 fun v27 =>
pFieldA v27 24 fun v28 =>
pStore h26 v28 v23 1 fun h29 =>
pChk v22 none v23 h16 h26 h16.nx <|
j21 (()) h29) (
pCall c (.fn 81 [] []) [s15.2.2.2.2.1, s15.2.2.2.1] h16 fun _ h31 =>
some ((.tup []), h31))) fun j17 =>
pWant s12.2.2.1 true (
pPick s12.2.1 (.bool true) s12.1 fun v32 =>
j17 (v32, s12.2.2.1, s12.2.2.2.1, s12.2.2.2.2.1, s12.2.2.2.2.2.1, ()) h13) (
j17 (.undef, s12.2.2.1, s12.2.2.2.1, s12.2.2.2.2.1, s12.2.2.2.2.2.1, ()) h13)) fun j14 =>
pWant s9.1 false (
pFieldA s9.2.2.1 0 fun v33 =>
pLoad1 h10 v33 fun v34 =>
pNil s9.2.2.2.2.1 fun v35 =>
pFieldA v35 24 fun v36 =>
pLoad1 h10 v36 fun v37 =>
pInt .eql v34 v37 fun v38 =>
j14 (v38, s9.1, s9.2.1, s9.2.2.1, s9.2.2.2.1, s9.2.2.2.2.1, ()) h10) (
j14 (.undef, s9.1, s9.2.1, s9.2.2.1, s9.2.2.2.1, s9.2.2.2.2.1, ()) h10)) fun j11 =>
pWant v8 true (
pNil s5.2.2.2.2.1 fun v39 =>
pFieldA v39 25 fun v40 =>
pLoad1 h6 v40 fun v41 =>
pUn .not v41 fun v42 =>
j11 (v42, v8, s5.2.2.1, s5.2.2.2.1, s5.2.2.2.2.1, ()) h6) (
j11 (.undef, v8, s5.2.2.1, s5.2.2.2.1, s5.2.2.2.2.1, ()) h6)) fun j7 =>
pWant v4 true (
pFieldA v0 0 fun v43 =>
pLoad1 h1 v43 fun v44 =>
pInt .neq v44 (.int .u64 (.ofNat 0)) fun v45 =>
j7 (v45, v4, v0, a2, a0, ()) h1) (
j7 (.undef, v4, v0, a2, a0, ()) h1)
theorem S53_eq (c : CV) (a0 a1 a2 : AV) (h : AH) : enterK Tryz.prog NN P53 c 53 [a0, a1, a2] h = S53 c a0 a1 a2 h := by kernel_rfl
def W53 (c : CV) (l : List AV) (h : AH) : R := match l with | [a0, a1, a2] => S53 c a0 a1 a2 h | _ => none
theorem W53_ok : WOk Tryz.prog 53 W53 := by
  intro c l h r e
  unfold W53 at e
  split at e
  · exact ⟨P53, by rw [S53_eq]; exact e⟩
  · cases e
/- (*quietus/thread.Thread).looked -/
def P54 : Pl := .z
def S54 (c : CV) (a0 a1 : AV) (h : AH) : R :=
pNil a0 fun v0 =>
pFieldA v0 22 fun v1 =>
pLoad1 h v1 fun v2 =>
pBuildS h 22 [(.int .u64 (.ofNat 0))] 1 [(0, 1, a1)] fun v3 h4 =>
pAppend h4 22 1 v2 v3 fun v5 h6 =>
pNil a0 fun v7 =>
pFieldA v7 22 fun v8 =>
pStore h6 v8 v5 1 fun h9 =>
pCall c (.fn 89 [] []) [a0] h9 fun _ h11 =>
some ((.tup []), h11)
theorem S54_eq (c : CV) (a0 a1 : AV) (h : AH) : enterK Tryz.prog NN P54 c 54 [a0, a1] h = S54 c a0 a1 h := by kernel_rfl
def W54 (c : CV) (l : List AV) (h : AH) : R := match l with | [a0, a1] => S54 c a0 a1 h | _ => none
theorem W54_ok : WOk Tryz.prog 54 W54 := by
  intro c l h r e
  unfold W54 at e
  split at e
  · exact ⟨P54, by rw [S54_eq]; exact e⟩
  · cases e
/- (*quietus/attempt.Attempt).Seen -/
def P55 : Pl := .z
def S55 (c : CV) (a0 : AV) (h : AH) : R :=
pNil a0 fun v0 =>
pFieldA v0 13 fun v1 =>
pLoad1 h v1 fun v2 =>
pCall c (.fn 90 [] []) [v2] h fun v3 h4 =>
some (v3, h4)
theorem S55_eq (c : CV) (a0 : AV) (h : AH) : enterK Tryz.prog NN P55 c 55 [a0] h = S55 c a0 h := by kernel_rfl
def W55 (c : CV) (l : List AV) (h : AH) : R := match l with | [a0] => S55 c a0 h | _ => none
theorem W55_ok : WOk Tryz.prog 55 W55 := by
  intro c l h r e
  unfold W55 at e
  split at e
  · exact ⟨P55, by rw [S55_eq]; exact e⟩
  · cases e
/- (*quietus/attempt.Attempt).Blocking -/
def P56 : Pl := (.n none .z (.n none (.r [[12, 8]]) .z))
def S56 (_ : CV) (a0 : AV) (h : AH) : R :=
pNil a0 fun v0 =>
pFieldA v0 14 fun v1 =>
pLoad1 h v1 fun v2 =>
pInt .neq v2 (.int .i64 (.ofNat 8)) fun v3 =>
joinC (α := AV × AV × Unit → AH → R) (fun s4 h5 =>
pPick s4.2.1 s4.1 (.bool false) fun v7 =>
some (v7, h5)) fun j6 =>
pWant v3 true (
pNil a0 fun v8 =>
pFieldA v8 25 fun v9 =>
pLoad1 h v9 fun v10 =>
j6 (v10, v3, ()) h) (
j6 (.undef, v3, ()) h)
theorem S56_eq (c : CV) (a0 : AV) (h : AH) : enterK Tryz.prog NN P56 c 56 [a0] h = S56 c a0 h := by kernel_rfl
def W56 (c : CV) (l : List AV) (h : AH) : R := match l with | [a0] => S56 c a0 h | _ => none
theorem W56_ok : WOk Tryz.prog 56 W56 := by
  intro c l h r e
  unfold W56 at e
  split at e
  · exact ⟨P56, by rw [S56_eq]; exact e⟩
  · cases e
/- (*quietus/heap.Heap).All -/
def P57 : Pl := .z
def S57 (c : CV) (a0 : AV) (h : AH) : R :=
pNil a0 fun v0 =>
pFieldA v0 0 fun v1 =>
pLoad1 h v1 fun v2 =>
pCall c (.fn 91 [] []) [v2] h fun v3 h4 =>
some (v3, h4)
theorem S57_eq (c : CV) (a0 : AV) (h : AH) : enterK Tryz.prog NN P57 c 57 [a0] h = S57 c a0 h := by kernel_rfl
def W57 (c : CV) (l : List AV) (h : AH) : R := match l with | [a0] => S57 c a0 h | _ => none
theorem W57_ok : WOk Tryz.prog 57 W57 := by
  intro c l h r e
  unfold W57 at e
  split at e
  · exact ⟨P57, by rw [S57_eq]; exact e⟩
  · cases e
/- slices.Clone[[]quietus/api.Result,quietus/api.Result] -/
def P58 : Pl := .z
def S58 (_ : CV) (a0 : AV) (h : AH) : R :=
pEq .slc false a0 .nils fun v0 =>
pCond v0 (
some (.nils, h)) (
pBuildS h 44 [(.int .i64 (.ofNat 0)), (.int .i64 (.ofNat 0)), (.str []), (.int .u64 (.ofNat 0))] 0 [] fun v1 h2 =>
pAppend h2 44 4 v1 a0 fun v3 h4 =>
some (v3, h4))
theorem S58_eq (c : CV) (a0 : AV) (h : AH) : enterK Tryz.prog NN P58 c 58 [a0] h = S58 c a0 h := by kernel_rfl
def W58 (c : CV) (l : List AV) (h : AH) : R := match l with | [a0] => S58 c a0 h | _ => none
theorem W58_ok : WOk Tryz.prog 58 W58 := by
  intro c l h r e
  unfold W58 at e
  split at e
  · exact ⟨P58, by rw [S58_eq]; exact e⟩
  · cases e
/- (*quietus/clock.Clock).Load -/
def P59 : Pl := .z
def S59 (_ : CV) (a0 : AV) (h : AH) : R :=
pNil a0 fun v0 =>
pFieldA v0 0 fun v1 =>
pLoad1 h v1 fun v2 =>
some (v2, h)
theorem S59_eq (c : CV) (a0 : AV) (h : AH) : enterK Tryz.prog NN P59 c 59 [a0] h = S59 c a0 h := by kernel_rfl
def W59 (c : CV) (l : List AV) (h : AH) : R := match l with | [a0] => S59 c a0 h | _ => none
theorem W59_ok : WOk Tryz.prog 59 W59 := by
  intro c l h r e
  unfold W59 at e
  split at e
  · exact ⟨P59, by rw [S59_eq]; exact e⟩
  · cases e
/- (*quietus/attempt.Attempt).Writing -/
def P60 : Pl := (.n none .z (.n none (.r [[13, 8, 0], [21, 15, 0], [27, 21, 15], [28, 15]]) .z))
def S60 (c : CV) (a0 : AV) (h : AH) : R :=
pNil a0 fun v0 =>
pFieldA v0 14 fun v1 =>
pLoad1 h v1 fun v2 =>
pInt .neq v2 (.int .i64 (.ofNat 8)) fun v3 =>
joinC (α := AV × AV × AV × Unit → AH → R) (fun s4 h5 =>
pPick s4.2.1 s4.1 (.bool false) fun v7 =>
joinC (α := AV × AV × AV × Unit → AH → R) (fun s8 h9 =>
joinC (α := AV × AV × AV × Unit → AH → R) (fun s11 h12 =>
joinC (α := AV × AV × Unit → AH → R) (fun s14 h15 =>
pPick s14.2.1 s14.1 (.bool false) fun v17 =>
some (v17, h15)) fun j16 =>
pWant s11.2.2.1 true (
pPick s11.2.1 (.bool true) s11.1 fun v18 =>
j16 (v18, s11.2.2.1, ()) h12) (
j16 (.undef, s11.2.2.1, ()) h12)) fun j13 =>
pWant s8.1 false (
pNil s8.2.2.1 fun v19 =>
pFieldA v19 18 fun v20 =>
pLoad1 h9 v20 fun v21 =>
pCall c (.fn 93 [] []) [v21] h9 fun v22 h23 =>
pInt .eql v22 (.int .i64 (.ofNat 2)) fun v24 =>
j13 (v24, s8.1, s8.2.1, ()) h23) (
j13 (.undef, s8.1, s8.2.1, ()) h9)) fun j10 =>
pWant v7 true (
pNil s4.2.2.1 fun v25 =>
pFieldA v25 18 fun v26 =>
pLoad1 h5 v26 fun v27 =>
pCall c (.fn 92 [] []) [v27] h5 fun v28 h29 =>
j10 (v28, v7, s4.2.2.1, ()) h29) (
j10 (.undef, v7, s4.2.2.1, ()) h5)) fun j6 =>
pWant v3 true (
pNil a0 fun v30 =>
pFieldA v30 18 fun v31 =>
pLoad1 h v31 fun v32 =>
pEq .ptr true v32 .nilp fun v33 =>
j6 (v33, v3, a0, ()) h) (
j6 (.undef, v3, a0, ()) h)
theorem S60_eq (c : CV) (a0 : AV) (h : AH) : enterK Tryz.prog NN P60 c 60 [a0] h = S60 c a0 h := by kernel_rfl
def W60 (c : CV) (l : List AV) (h : AH) : R := match l with | [a0] => S60 c a0 h | _ => none
theorem W60_ok : WOk Tryz.prog 60 W60 := by
  intro c l h r e
  unfold W60 at e
  split at e
  · exact ⟨P60, by rw [S60_eq]; exact e⟩
  · cases e
/- quietus/thread.copied -/
def P61 : Pl := (.n none .z (.n none (.r [[2, 1]]) .z))
def S61 (c : CV) (a0 : AV) (h : AH) : R :=
pBox h 111 a0 fun v0 h1 =>
pBox h1 111 (.agg [(.int .i64 (.ofNat 0)), (.int .i64 (.ofNat 0)), (.int .i64 (.ofNat 0)), (.bool false), (.int .i64 (.ofNat 0)), (.int .i64 (.ofNat 0)), (.int .u64 (.ofNat 0)), (.int .u64 (.ofNat 0)), (.int .i64 (.ofNat 0)), (.int .i64 (.ofNat 0)), .nils, .nils, .nils, (.str [])]) fun v2 h3 =>
joinC (α := AV × AV × Unit → AH → R) (fun s4 h5 =>
pLoadN h5 s4.2.1 14 fun v7 =>
pStore h5 s4.1 v7 14 fun h8 =>
pLoadN h8 s4.1 14 fun v9 =>
some (v9, h8)) fun j6 =>
pFieldA v0 10 fun v10 =>
pLoad1 h3 v10 fun v11 =>
pCall c (.fn 94 [] []) [v11] h3 fun v12 h13 =>
pFieldA v0 11 fun v14 =>
pLoad1 h13 v14 fun v15 =>
pCall c (.fn 94 [] []) [v15] h13 fun v16 h17 =>
pFieldA v0 12 fun v18 =>
pLoad1 h17 v18 fun v19 =>
pCall c (.fn 95 [] []) [v19] h17 fun v20 h21 =>
pFieldA v0 10 fun v22 =>
pStore h21 v22 v12 1 fun h23 =>
pFieldA v0 11 fun v24 =>
pStore h23 v24 v16 1 fun h25 =>
pFieldA v0 12 fun v26 =>
pStore h25 v26 v20 1 fun h27 =>
pChk v18 none v19 h13 h17 h3.nx <|
pChk v18 none v19 h3 h13 h3.nx <|
pChk v14 none v15 h3 h13 h3.nx <|
j6 (v2, v0, ()) h27
theorem S61_eq (c : CV) (a0 : AV) (h : AH) : enterK Tryz.prog NN P61 c 61 [a0] h = S61 c a0 h := by kernel_rfl
def W61 (c : CV) (l : List AV) (h : AH) : R := match l with | [a0] => S61 c a0 h | _ => none
theorem W61_ok : WOk Tryz.prog 61 W61 := by
  intro c l h r e
  unfold W61 at e
  split at e
  · exact ⟨P61, by rw [S61_eq]; exact e⟩
  · cases e
/- (*quietus/thread.Thread).told -/
def P62 : Pl := (.n none .z (.n none .z (.n none .z (.n none .z (.n (some [8, 6, 5, 4, 1, 0]) .z (.n none (.r [[4]]) .z))))))
def S62 (c : CV) (a0 a1 : AV) (h : AH) : R :=
pBox h 111 (.agg [(.int .i64 (.ofNat 0)), (.int .i64 (.ofNat 0)), (.int .i64 (.ofNat 0)), (.bool false), (.int .i64 (.ofNat 0)), (.int .i64 (.ofNat 0)), (.int .u64 (.ofNat 0)), (.int .u64 (.ofNat 0)), (.int .i64 (.ofNat 0)), (.int .i64 (.ofNat 0)), .nils, .nils, .nils, (.str [])]) fun v0 h1 =>
pNil a0 fun v2 =>
pFieldA v2 16 fun v3 =>
pLoad1 h1 v3 fun v4 =>
pCall c (.fn 49 [] []) [v4] h1 fun v5 h6 =>
pExtract v5 0 fun v7 =>
pExtract v5 1 fun _ =>
pCall c (.fn 51 [] []) [v4] h6 fun v9 h10 =>
joinC (α := AV × AV × AV × AV × AV × AV × Unit → AH → List Nat → R) (fun s11 h12 d13 =>
joinC (α := AV × Unit → AH → R) (fun s15 h16 =>
pLeave d13 h16 fun h18 =>
pLoadN h18 s15.1 14 fun v19 =>
some (v19, h18)) fun j17 =>
pNil s11.2.2.2.2.2.1 fun v20 =>
pFieldA v20 0 fun v21 =>
pLoad1 h12 v21 fun v22 =>
pNil s11.2.2.2.2.2.1 fun v23 =>
pFieldA v23 10 fun v24 =>
pLoad1 h12 v24 fun v25 =>
pNil s11.2.2.2.2.2.1 fun v26 =>
pFieldA v26 12 fun v27 =>
pFieldA v27 2 fun v28 =>
pLoad1 h12 v28 fun v29 =>
pNil s11.2.2.2.2.2.1 fun v30 =>
pFieldA v30 12 fun v31 =>
pFieldA v31 0 fun v32 =>
pLoad1 h12 v32 fun v33 =>
pCall c (.fn 83 [] []) [s11.2.2.1] h12 fun v34 h35 =>
pCall c (.fn 85 [] []) [s11.2.2.1] h35 fun v36 h37 =>
pNil s11.2.2.2.2.2.1 fun v38 =>
pFieldA v38 17 fun v39 =>
pLoad1 h37 v39 fun v40 =>
pCall c (.fn 96 [] []) [s11.2.2.1] h37 fun v41 h42 =>
pCall c (.fn 97 [] []) [s11.2.2.1] h42 fun v43 h44 =>
pCall c (.fn 87 [] []) [s11.2.2.1] h44 fun v45 h46 =>
pCall c (.fn 84 [] []) [s11.2.2.1] h46 fun v47 h48 =>
pBuild [(.int .i64 (.ofNat 0)), (.int .i64 (.ofNat 0)), (.int .i64 (.ofNat 0)), (.bool false), (.int .i64 (.ofNat 0)), (.int .i64 (.ofNat 0)), (.int .u64 (.ofNat 0)), (.int .u64 (.ofNat 0)), (.int .i64 (.ofNat 0)), (.int .i64 (.ofNat 0)), .nils, .nils, .nils, (.str [])] [(0, 1, v22), (1, 1, v25), (2, 1, v29), (3, 1, v33), (4, 1, s11.1), (5, 1, v34), (6, 1, s11.2.1), (7, 1, v36), (8, 1, v40), (9, 1, s11.2.2.2.2.1), (10, 1, v41), (11, 1, v43), (12, 1, v45), (13, 1, v47)] fun v49 =>
pStore h48 s11.2.2.2.1 v49 14 fun h50 =>
pChk v39 none v40 h46 h48 h12.nx <|
pChk v39 none v40 h44 h46 h12.nx <|
pChk v39 none v40 h42 h44 h12.nx <|
pChk v39 none v40 h37 h42 h12.nx <|
pChk v39 none v40 h35 h37 h12.nx <|
pChk v39 none v40 h12 h35 h12.nx <|
pChk v32 none v33 h46 h48 h12.nx <|
pChk v32 none v33 h44 h46 h12.nx <|
pChk v32 none v33 h42 h44 h12.nx <|
pChk v32 none v33 h37 h42 h12.nx <|
pChk v32 none v33 h35 h37 h12.nx <|
pChk v32 none v33 h12 h35 h12.nx <|
pChk v28 none v29 h46 h48 h12.nx <|
pChk v28 none v29 h44 h46 h12.nx <|
pChk v28 none v29 h42 h44 h12.nx <|
pChk v28 none v29 h37 h42 h12.nx <|
pChk v28 none v29 h35 h37 h12.nx <|
pChk v28 none v29 h12 h35 h12.nx <|
pChk v24 none v25 h46 h48 h12.nx <|
pChk v24 none v25 h44 h46 h12.nx <|
pChk v24 none v25 h42 h44 h12.nx <|
pChk v24 none v25 h37 h42 h12.nx <|
pChk v24 none v25 h35 h37 h12.nx <|
pChk v24 none v25 h12 h35 h12.nx <|
pChk v21 none v22 h46 h48 h12.nx <|
pChk v21 none v22 h44 h46 h12.nx <|
pChk v21 none v22 h42 h44 h12.nx <|
pChk v21 none v22 h37 h42 h12.nx <|
pChk v21 none v22 h35 h37 h12.nx <|
pChk v21 none v22 h12 h35 h12.nx <|
j17 (s11.2.2.2.1, ()) h50) fun j14 =>
pCall c (.fn 60 [] []) [v4] h10 fun v51 h52 =>
pCond v51 (
j14 ((.int .i64 (.ofNat 2)), v7, v4, v0, a1, a0, ()) h52 []) (
j14 (v9, v7, v4, v0, a1, a0, ()) h52 [])
theorem S62_eq (c : CV) (a0 a1 : AV) (h : AH) : enterK Tryz.prog NN P62 c 62 [a0, a1] h = S62 c a0 a1 h := by kernel_rfl
def W62 (c : CV) (l : List AV) (h : AH) : R := match l with | [a0, a1] => S62 c a0 a1 h | _ => none
theorem W62_ok : WOk Tryz.prog 62 W62 := by
  intro c l h r e
  unfold W62 at e
  split at e
  · exact ⟨P62, by rw [S62_eq]; exact e⟩
  · cases e
/- (*quietus/stripe.Table).All -/
def P63 : Pl := .z
def S63 (c : CV) (a0 : AV) (h : AH) : R :=
pNil a0 fun v0 =>
pFieldA v0 0 fun v1 =>
pLoad1 h v1 fun v2 =>
pCall c (.fn 98 [] []) [v2] h fun v3 h4 =>
some (v3, h4)
theorem S63_eq (c : CV) (a0 : AV) (h : AH) : enterK Tryz.prog NN P63 c 63 [a0] h = S63 c a0 h := by kernel_rfl
def W63 (c : CV) (l : List AV) (h : AH) : R := match l with | [a0] => S63 c a0 h | _ => none
theorem W63_ok : WOk Tryz.prog 63 W63 := by
  intro c l h r e
  unfold W63 at e
  split at e
  · exact ⟨P63, by rw [S63_eq]; exact e⟩
  · cases e
/- (*quietus/epoch.Slots).All -/
def P64 : Pl := .z
def S64 (c : CV) (a0 : AV) (h : AH) : R :=
pNil a0 fun v0 =>
pFieldA v0 0 fun v1 =>
pLoad1 h v1 fun v2 =>
pCall c (.fn 91 [] []) [v2] h fun v3 h4 =>
some (v3, h4)
theorem S64_eq (c : CV) (a0 : AV) (h : AH) : enterK Tryz.prog NN P64 c 64 [a0] h = S64 c a0 h := by kernel_rfl
def W64 (c : CV) (l : List AV) (h : AH) : R := match l with | [a0] => S64 c a0 h | _ => none
theorem W64_ok : WOk Tryz.prog 64 W64 := by
  intro c l h r e
  unfold W64 at e
  split at e
  · exact ⟨P64, by rw [S64_eq]; exact e⟩
  · cases e
/- (*quietus/limbo.Limbo).All -/
def P65 : Pl := .z
def S65 (c : CV) (a0 : AV) (h : AH) : R :=
pNil a0 fun v0 =>
pFieldA v0 0 fun v1 =>
pLoad1 h v1 fun v2 =>
pCall c (.fn 99 [] []) [v2] h fun v3 h4 =>
some (v3, h4)
theorem S65_eq (c : CV) (a0 : AV) (h : AH) : enterK Tryz.prog NN P65 c 65 [a0] h = S65 c a0 h := by kernel_rfl
def W65 (c : CV) (l : List AV) (h : AH) : R := match l with | [a0] => S65 c a0 h | _ => none
theorem W65_ok : WOk Tryz.prog 65 W65 := by
  intro c l h r e
  unfold W65 at e
  split at e
  · exact ⟨P65, by rw [S65_eq]; exact e⟩
  · cases e
/- quietus/stripe.near -/
def P66 : Pl := .z
def S66 (_ : CV) (a0 a1 : AV) (h : AH) : R :=
pMM false [a0, a1] fun v0 =>
pMM true [(.int .i64 (.ofNat 1)), v0] fun v1 =>
some (v1, h)
theorem S66_eq (c : CV) (a0 a1 : AV) (h : AH) : enterK Tryz.prog NN P66 c 66 [a0, a1] h = S66 c a0 a1 h := by kernel_rfl
def W66 (c : CV) (l : List AV) (h : AH) : R := match l with | [a0, a1] => S66 c a0 a1 h | _ => none
theorem W66_ok : WOk Tryz.prog 66 W66 := by
  intro c l h r e
  unfold W66 at e
  split at e
  · exact ⟨P66, by rw [S66_eq]; exact e⟩
  · cases e
/- (*quietus/heap.Heap).Load -/
def P67 : Pl := .z
def S67 (c : CV) (a0 a1 : AV) (h : AH) : R :=
pCall c (.fn 100 [] []) [a0, a1] h fun v0 h1 =>
pUn .not v0 fun v2 =>
pCond v2 (
some ((.tup [(.int .u64 (.ofNat 0)), (.int .i64 (.ofNat 2))]), h1)) (
pNil a0 fun v3 =>
pFieldA v3 0 fun v4 =>
pLoad1 h1 v4 fun v5 =>
pIdxS v5 a1 1 fun v6 =>
pLoad1 h1 v6 fun v7 =>
some ((.tup [v7, (.int .i64 (.ofNat 0))]), h1))
theorem S67_eq (c : CV) (a0 a1 : AV) (h : AH) : enterK Tryz.prog NN P67 c 67 [a0, a1] h = S67 c a0 a1 h := by kernel_rfl
def W67 (c : CV) (l : List AV) (h : AH) : R := match l with | [a0, a1] => S67 c a0 a1 h | _ => none
theorem W67_ok : WOk Tryz.prog 67 W67 := by
  intro c l h r e
  unfold W67 at e
  split at e
  · exact ⟨P67, by rw [S67_eq]; exact e⟩
  · cases e
/- (*quietus/heap.Heap).Store -/
def P68 : Pl := .z
def S68 (c : CV) (a0 a1 a2 : AV) (h : AH) : R :=
pCall c (.fn 100 [] []) [a0, a1] h fun v0 h1 =>
pUn .not v0 fun v2 =>
pCond v2 (
some ((.int .i64 (.ofNat 2)), h1)) (
pNil a0 fun v3 =>
pFieldA v3 0 fun v4 =>
pLoad1 h1 v4 fun v5 =>
pIdxS v5 a1 1 fun v6 =>
pStore h1 v6 a2 1 fun h7 =>
some ((.int .i64 (.ofNat 0)), h7))
theorem S68_eq (c : CV) (a0 a1 a2 : AV) (h : AH) : enterK Tryz.prog NN P68 c 68 [a0, a1, a2] h = S68 c a0 a1 a2 h := by kernel_rfl
def W68 (c : CV) (l : List AV) (h : AH) : R := match l with | [a0, a1, a2] => S68 c a0 a1 a2 h | _ => none
theorem W68_ok : WOk Tryz.prog 68 W68 := by
  intro c l h r e
  unfold W68 at e
  split at e
  · exact ⟨P68, by rw [S68_eq]; exact e⟩
  · cases e
/- (*quietus/stripe.Table).Load -/
def P69 : Pl := .z
def S69 (c : CV) (a0 a1 : AV) (h : AH) : R :=
pBox h 60 (.agg [(.int .u64 (.ofNat 0)), (.bool false), (.int .i64 (.ofNat 0))]) fun v0 h1 =>
pCall c (.fn 101 [] []) [a0, a1] h1 fun v2 h3 =>
pUn .not v2 fun v4 =>
pCond v4 (
pBuild [(.int .u64 (.ofNat 0)), (.bool false), (.int .i64 (.ofNat 0))] [] fun v5 =>
pStore h3 v0 v5 3 fun h6 =>
pLoadN h6 v0 3 fun v7 =>
some ((.tup [v7, (.int .i64 (.ofNat 2))]), h6)) (
pNil a0 fun v8 =>
pFieldA v8 0 fun v9 =>
pLoad1 h3 v9 fun v10 =>
pIdxS v10 a1 3 fun v11 =>
pLoadN h3 v11 3 fun v12 =>
pStore h3 v0 v12 3 fun h13 =>
pLoadN h13 v0 3 fun v14 =>
some ((.tup [v14, (.int .i64 (.ofNat 0))]), h13))
theorem S69_eq (c : CV) (a0 a1 : AV) (h : AH) : enterK Tryz.prog NN P69 c 69 [a0, a1] h = S69 c a0 a1 h := by kernel_rfl
def W69 (c : CV) (l : List AV) (h : AH) : R := match l with | [a0, a1] => S69 c a0 a1 h | _ => none
theorem W69_ok : WOk Tryz.prog 69 W69 := by
  intro c l h r e
  unfold W69 at e
  split at e
  · exact ⟨P69, by rw [S69_eq]; exact e⟩
  · cases e
/- (*quietus/stripe.Table).Cas -/
def P70 : Pl := .z
def S70 (c : CV) (a0 a1 a2 a3 : AV) (h : AH) : R :=
pBox h 60 a2 fun v0 h1 =>
pBox h1 60 a3 fun v2 h3 =>
pLoadN h3 v2 3 fun v4 =>
pCall c (.fn 102 [] []) [a0, a1, v4] h3 fun v5 h6 =>
pInt .neq v5 (.int .i64 (.ofNat 0)) fun v7 =>
pCond v7 (
some ((.tup [(.bool false), v5]), h6)) (
pNil a0 fun v8 =>
pFieldA v8 0 fun v9 =>
pLoad1 h6 v9 fun v10 =>
pIdxS v10 a1 3 fun v11 =>
pLoadN h6 v11 3 fun v12 =>
pLoadN h6 v0 3 fun v13 =>
pEqS [.bas .int 0, .bas .bool 1, .bas .int 2] true v12 v13 fun v14 =>
pCond v14 (
some ((.tup [(.bool false), (.int .i64 (.ofNat 0))]), h6)) (
pNil a0 fun v15 =>
pFieldA v15 0 fun v16 =>
pLoad1 h6 v16 fun v17 =>
pLoadN h6 v2 3 fun v18 =>
pIdxS v17 a1 3 fun v19 =>
pStore h6 v19 v18 3 fun h20 =>
some ((.tup [(.bool true), (.int .i64 (.ofNat 0))]), h20)))
theorem S70_eq (c : CV) (a0 a1 a2 a3 : AV) (h : AH) : enterK Tryz.prog NN P70 c 70 [a0, a1, a2, a3] h = S70 c a0 a1 a2 a3 h := by kernel_rfl
def W70 (c : CV) (l : List AV) (h : AH) : R := match l with | [a0, a1, a2, a3] => S70 c a0 a1 a2 a3 h | _ => none
theorem W70_ok : WOk Tryz.prog 70 W70 := by
  intro c l h r e
  unfold W70 at e
  split at e
  · exact ⟨P70, by rw [S70_eq]; exact e⟩
  · cases e
/- (*quietus/stripe.Table).Store -/
def P71 : Pl := (.n none .z (.n none .z (.n (some [7]) .z .z)))
def S71 (c : CV) (a0 a1 a2 : AV) (h : AH) : R :=
pBox h 60 a2 fun v0 h1 =>
pLoadN h1 v0 3 fun v2 =>
pCall c (.fn 102 [] []) [a0, a1, v2] h1 fun v3 h4 =>
joinC (α := AV × Unit → AH → List Nat → R) (fun s5 h6 d7 =>
pLeave d7 h6 fun h9 =>
some (s5.1, h9)) fun j8 =>
pInt .eql v3 (.int .i64 (.ofNat 0)) fun v10 =>
pCond v10 (
pNil a0 fun v11 =>
pFieldA v11 0 fun v12 =>
pLoad1 h4 v12 fun v13 =>
pLoadN h4 v0 3 fun v14 =>
pIdxS v13 a1 3 fun v15 =>
pStore h4 v15 v14 3 fun h16 =>
j8 (v3, ()) h16 []) (
j8 (v3, ()) h4 [])
theorem S71_eq (c : CV) (a0 a1 a2 : AV) (h : AH) : enterK Tryz.prog NN P71 c 71 [a0, a1, a2] h = S71 c a0 a1 a2 h := by kernel_rfl
def W71 (c : CV) (l : List AV) (h : AH) : R := match l with | [a0, a1, a2] => S71 c a0 a1 a2 h | _ => none
theorem W71_ok : WOk Tryz.prog 71 W71 := by
  intro c l h r e
  unfold W71 at e
  split at e
  · exact ⟨P71, by rw [S71_eq]; exact e⟩
  · cases e
/- (*quietus/clock.Clock).Cas -/
def P72 : Pl := .z
def S72 (_ : CV) (a0 a1 a2 : AV) (h : AH) : R :=
pInt .leq a2 a1 fun v0 =>
pCond v0 (
some ((.tup [(.bool false), (.int .i64 (.ofNat 1))]), h)) (
pInt .geq a2 (.int .u64 (.ofNat 4611686018427387904)) fun v1 =>
pCond v1 (
some ((.tup [(.bool false), (.int .i64 (.ofNat 7))]), h)) (
pNil a0 fun v2 =>
pFieldA v2 0 fun v3 =>
pLoad1 h v3 fun v4 =>
pInt .neq v4 a1 fun v5 =>
pCond v5 (
some ((.tup [(.bool false), (.int .i64 (.ofNat 0))]), h)) (
pNil a0 fun v6 =>
pFieldA v6 0 fun v7 =>
pStore h v7 a2 1 fun h8 =>
some ((.tup [(.bool true), (.int .i64 (.ofNat 0))]), h8))))
theorem S72_eq (c : CV) (a0 a1 a2 : AV) (h : AH) : enterK Tryz.prog NN P72 c 72 [a0, a1, a2] h = S72 c a0 a1 a2 h := by kernel_rfl
def W72 (c : CV) (l : List AV) (h : AH) : R := match l with | [a0, a1, a2] => S72 c a0 a1 a2 h | _ => none
theorem W72_ok : WOk Tryz.prog 72 W72 := by
  intro c l h r e
  unfold W72 at e
  split at e
  · exact ⟨P72, by rw [S72_eq]; exact e⟩
  · cases e
/- (*quietus/epoch.Slots).Load -/
def P73 : Pl := .z
def S73 (c : CV) (a0 a1 : AV) (h : AH) : R :=
pCall c (.fn 103 [] []) [a0, a1] h fun v0 h1 =>
pUn .not v0 fun v2 =>
pCond v2 (
some ((.tup [(.int .u64 (.ofNat 0)), (.int .i64 (.ofNat 2))]), h1)) (
pNil a0 fun v3 =>
pFieldA v3 0 fun v4 =>
pLoad1 h1 v4 fun v5 =>
pIdxS v5 a1 1 fun v6 =>
pLoad1 h1 v6 fun v7 =>
some ((.tup [v7, (.int .i64 (.ofNat 0))]), h1))
theorem S73_eq (c : CV) (a0 a1 : AV) (h : AH) : enterK Tryz.prog NN P73 c 73 [a0, a1] h = S73 c a0 a1 h := by kernel_rfl
def W73 (c : CV) (l : List AV) (h : AH) : R := match l with | [a0, a1] => S73 c a0 a1 h | _ => none
theorem W73_ok : WOk Tryz.prog 73 W73 := by
  intro c l h r e
  unfold W73 at e
  split at e
  · exact ⟨P73, by rw [S73_eq]; exact e⟩
  · cases e
/- (*quietus/epoch.Slots).Store -/
def P74 : Pl := .z
def S74 (c : CV) (a0 a1 a2 : AV) (h : AH) : R :=
pCall c (.fn 103 [] []) [a0, a1] h fun v0 h1 =>
pUn .not v0 fun v2 =>
pCond v2 (
some ((.int .i64 (.ofNat 2)), h1)) (
pNil a0 fun v3 =>
pFieldA v3 0 fun v4 =>
pLoad1 h1 v4 fun v5 =>
pIdxS v5 a1 1 fun v6 =>
pStore h1 v6 a2 1 fun h7 =>
some ((.int .i64 (.ofNat 0)), h7))
theorem S74_eq (c : CV) (a0 a1 a2 : AV) (h : AH) : enterK Tryz.prog NN P74 c 74 [a0, a1, a2] h = S74 c a0 a1 a2 h := by kernel_rfl
def W74 (c : CV) (l : List AV) (h : AH) : R := match l with | [a0, a1, a2] => S74 c a0 a1 a2 h | _ => none
theorem W74_ok : WOk Tryz.prog 74 W74 := by
  intro c l h r e
  unfold W74 at e
  split at e
  · exact ⟨P74, by rw [S74_eq]; exact e⟩
  · cases e
/- quietus/attempt.Sweep -/
def P75 : Pl := .z
def S75 (c : CV) (a0 a1 a2 : AV) (h : AH) : R :=
pBox h 26 a1 fun v0 h1 =>
pLoadN h1 v0 8 fun v2 =>
pCall c (.fn 104 [] []) [a0, v2] h1 fun v3 h4 =>
pCall c (.fn 95 [] []) [a2] h4 fun v5 h6 =>
pNil v3 fun v7 =>
pFieldA v7 10 fun v8 =>
pStore h6 v8 v5 1 fun h9 =>
some (v3, h9)
theorem S75_eq (c : CV) (a0 a1 a2 : AV) (h : AH) : enterK Tryz.prog NN P75 c 75 [a0, a1, a2] h = S75 c a0 a1 a2 h := by kernel_rfl
def W75 (c : CV) (l : List AV) (h : AH) : R := match l with | [a0, a1, a2] => S75 c a0 a1 a2 h | _ => none
theorem W75_ok : WOk Tryz.prog 75 W75 := by
  intro c l h r e
  unfold W75 at e
  split at e
  · exact ⟨P75, by rw [S75_eq]; exact e⟩
  · cases e
/- quietus/attempt.New -/
def P76 : Pl := .z
def S76 (c : CV) (a0 a1 a2 : AV) (h : AH) : R :=
pBox h 26 a1 fun v0 h1 =>
pBox h1 31 a2 fun v2 h3 =>
pLoadN h3 v0 8 fun v4 =>
pCall c (.fn 104 [] []) [a0, v4] h3 fun v5 h6 =>
pLoadN h6 v2 1 fun v7 =>
pNil v5 fun v8 =>
pFieldA v8 12 fun v9 =>
pLoad1 h6 v9 fun v10 =>
pNil v5 fun v11 =>
pFieldA v11 1 fun v12 =>
pFieldA v12 7 fun v13 =>
pLoad1 h6 v13 fun v14 =>
pCall c (.fn 105 [] []) [v7, v10, v14] h6 fun v15 h16 =>
pNil v5 fun v17 =>
pFieldA v17 9 fun v18 =>
pStore h16 v18 v15 1 fun h19 =>
some (v5, h19)
theorem S76_eq (c : CV) (a0 a1 a2 : AV) (h : AH) : enterK Tryz.prog NN P76 c 76 [a0, a1, a2] h = S76 c a0 a1 a2 h := by kernel_rfl
def W76 (c : CV) (l : List AV) (h : AH) : R := match l with | [a0, a1, a2] => S76 c a0 a1 a2 h | _ => none
theorem W76_ok : WOk Tryz.prog 76 W76 := by
  intro c l h r e
  unfold W76 at e
  split at e
  · exact ⟨P76, by rw [S76_eq]; exact e⟩
  · cases e
/- (*quietus/attempt.Attempt).out -/
def P77 : Pl := .z
def S77 (_ : CV) (a0 a1 a2 a3 : AV) (h : AH) : R :=
pNil a0 fun v0 =>
pFieldA v0 22 fun v1 =>
pStore h v1 a1 1 fun h2 =>
pNil a0 fun v3 =>
pFieldA v3 24 fun v4 =>
pStore h2 v4 a2 1 fun h5 =>
pNil a0 fun v6 =>
pFieldA v6 23 fun v7 =>
pStore h5 v7 a3 1 fun h8 =>
pNil a0 fun v9 =>
pFieldA v9 14 fun v10 =>
pStore h8 v10 (.int .i64 (.ofNat 7)) 1 fun h11 =>
some ((.tup []), h11)
theorem S77_eq (c : CV) (a0 a1 a2 a3 : AV) (h : AH) : enterK Tryz.prog NN P77 c 77 [a0, a1, a2, a3] h = S77 c a0 a1 a2 a3 h := by kernel_rfl
def W77 (c : CV) (l : List AV) (h : AH) : R := match l with | [a0, a1, a2, a3] => S77 c a0 a1 a2 a3 h | _ => none
theorem W77_ok : WOk Tryz.prog 77 W77 := by
  intro c l h r e
  unfold W77 at e
  split at e
  · exact ⟨P77, by rw [S77_eq]; exact e⟩
  · cases e
/- (*quietus/attempt.Attempt).work -/
def P78 : Pl := (.n none .z (.n none .z (.n (some []) (.n none .z (.n none .z (.n none .z (.n none .z (.n none .z (.n none .z (.n none .z (.n none .z (.n none (.r [[0]]) .z))))))))) .z)))
def S78 (c : CV) (a0 : AV) (h : AH) : R :=
pCall c (.fn 106 [] []) [a0] h fun v0 h1 =>
pExtract v0 0 fun v2 =>
pExtract v0 1 fun v3 =>
joinC (α := Unit → AH → List Nat → R) (fun _ h5 d6 =>
pLeave d6 h5 fun h8 =>
some ((.tup []), h8)) fun j7 =>
pInt .eql v2 (.int .i64 (.ofNat 1)) fun v9 =>
pCond v9 (
pNil a0 fun v10 =>
pFieldA v10 12 fun v11 =>
pLoad1 h1 v11 fun v12 =>
pCall c (.fn 108 [] []) [v12] h1 fun v13 h14 =>
pCall c (.fn 107 [] []) [a0, v13] h14 fun _ h16 =>
j7 (()) h16 []) (
pInt .eql v2 (.int .i64 (.ofNat 3)) fun v17 =>
pCond v17 (
pNil a0 fun v18 =>
pFieldA v18 25 fun v19 =>
pStore h1 v19 (.bool true) 1 fun h20 =>
pCall c (.fn 109 [] []) [a0, (.int .i64 (.ofNat 5))] h20 fun _ h22 =>
j7 (()) h22 []) (
pInt .eql v2 (.int .i64 (.ofNat 4)) fun v23 =>
pCond v23 (
pCall c (.fn 77 [] []) [a0, (.int .i64 (.ofNat 4)), v3, (.int .i64 (.negSucc 0))] h1 fun _ h25 =>
j7 (()) h25 []) (
pNil a0 fun v26 =>
pFieldA v26 12 fun v27 =>
pLoad1 h1 v27 fun v28 =>
pCall c (.fn 110 [] []) [v28] h1 fun v29 h30 =>
pLenS v29 fun v31 =>
pInt .eql v31 (.int .i64 (.ofNat 0)) fun v32 =>
pCond v32 (
pCall c (.fn 77 [] []) [a0, (.int .i64 (.ofNat 2)), (.int .i64 (.ofNat 0)), (.int .i64 (.negSucc 0))] h30 fun _ h34 =>
some ((.tup []), h34)) (
joinC (α := AV × Unit → AH → R) (fun s35 h36 =>
pNil s35.1 fun v38 =>
pFieldA v38 18 fun v39 =>
pLoad1 h36 v39 fun v40 =>
pCall c (.fn 112 [] []) [s35.1, (.int .i64 (.ofNat 6)), (.iface 141 v40)] h36 fun _ h42 =>
j7 (()) h42 []) fun j37 =>
pNil a0 fun v43 =>
pFieldA v43 0 fun v44 =>
pLoad1 h30 v44 fun v45 =>
pNil a0 fun v46 =>
pFieldA v46 1 fun v47 =>
pFieldA v47 5 fun v48 =>
pLoad1 h30 v48 fun v49 =>
pNil a0 fun v50 =>
pFieldA v50 21 fun v51 =>
pLoad1 h30 v51 fun v52 =>
pNil a0 fun v53 =>
pFieldA v53 13 fun v54 =>
pLoad1 h30 v54 fun v55 =>
pCall c (.fn 90 [] []) [v55] h30 fun v56 h57 =>
pNil a0 fun v58 =>
pFieldA v58 1 fun v59 =>
pFieldA v59 0 fun v60 =>
pFieldA v60 1 fun v61 =>
pLoad1 h57 v61 fun v62 =>
pNil a0 fun v63 =>
pFieldA v63 1 fun v64 =>
pFieldA v64 0 fun v65 =>
pFieldA v65 2 fun v66 =>
pLoad1 h57 v66 fun v67 =>
pCall c (.fn 111 [] []) [v45, v49, v52, v56, v29, v62, v67] h57 fun v68 h69 =>
pNil a0 fun v70 =>
pFieldA v70 18 fun v71 =>
pStore h69 v71 v68 1 fun h72 =>
pChk v66 none v67 h30 h57 h30.nx <|
pChk v61 none v62 h30 h57 h30.nx <|
pChk v51 none v52 h30 h57 h30.nx <|
pChk v48 none v49 h30 h57 h30.nx <|
pChk v44 none v45 h30 h57 h30.nx <|
j37 (a0, ()) h72))))
theorem S78_eq (c : CV) (a0 : AV) (h : AH) : enterK Tryz.prog NN P78 c 78 [a0] h = S78 c a0 h := by kernel_rfl
def W78 (c : CV) (l : List AV) (h : AH) : R := match l with | [a0] => S78 c a0 h | _ => none
theorem W78_ok : WOk Tryz.prog 78 W78 := by
  intro c l h r e
  unfold W78 at e
  split at e
  · exact ⟨P78, by rw [S78_eq]; exact e⟩
  · cases e
/- (*quietus/attempt.Attempt).told -/
def P79 : Pl := (.n none (.n none .z (.n (some [0]) .z .z)) .z)
def S79 (c : CV) (a0 : AV) (h : AH) : R :=
pNil a0 fun v0 =>
pFieldA v0 15 fun v1 =>
pLoad1 h v1 fun v2 =>
pInvoke c [(93, 51), (139, 168), (140, 173), (141, 93), (206, 122)] v2 [] h fun v3 h4 =>
joinC (α := AV × Unit → AH → List Nat → R) (fun s5 h6 d7 =>
pCall c (.fn 60 [] []) [s5.1] h6 fun v9 h10 =>
pCond v9 (
pNil s5.1 fun v11 =>
pFieldA v11 18 fun v12 =>
pLoad1 h10 v12 fun v13 =>
pCall c (.fn 114 [] []) [v13] h10 fun v14 h15 =>
pNil s5.1 fun v16 =>
pFieldA v16 21 fun v17 =>
pStore h15 v17 v14 1 fun h18 =>
pLeave d7 h18 fun h19 =>
some ((.tup []), h19)) (
pLeave d7 h10 fun h20 =>
some ((.tup []), h20))) fun j8 =>
pInt .eql v3 (.int .i64 (.ofNat 0)) fun v21 =>
pCond v21 (
j8 (a0, ()) h4 []) (
pInt .eql v3 (.int .i64 (.ofNat 5)) fun v22 =>
pCond v22 (
pNil a0 fun v23 =>
pFieldA v23 15 fun v24 =>
pLoad1 h4 v24 fun v25 =>
pInvoke c [(93, 80), (139, 359), (140, 367), (141, 370), (206, 362)] v25 [] h4 fun v26 h27 =>
pCall c (.fn 77 [] []) [a0, (.int .i64 (.ofNat 5)), (.int .i64 (.ofNat 0)), v26] h27 fun _ h29 =>
j8 (a0, ()) h29 []) (
pCall c (.fn 113 [] []) [a0] h4 fun _ h31 =>
j8 (a0, ()) h31 []))
theorem S79_eq (c : CV) (a0 : AV) (h : AH) : enterK Tryz.prog NN P79 c 79 [a0] h = S79 c a0 h := by kernel_rfl
def W79 (c : CV) (l : List AV) (h : AH) : R := match l with | [a0] => S79 c a0 h | _ => none
theorem W79_ok : WOk Tryz.prog 79 W79 := by
  intro c l h r e
  unfold W79 at e
  split at e
  · exact ⟨P79, by rw [S79_eq]; exact e⟩
  · cases e
/- (*quietus/attempt.Attempt).By -/
def P80 : Pl := .z
def S80 (_ : CV) (a0 : AV) (h : AH) : R :=
pNil a0 fun v0 =>
pFieldA v0 14 fun v1 =>
pLoad1 h v1 fun v2 =>
pInt .neq v2 (.int .i64 (.ofNat 8)) fun v3 =>
pCond v3 (
some ((.int .i64 (.negSucc 0)), h)) (
pNil a0 fun v4 =>
pFieldA v4 23 fun v5 =>
pLoad1 h v5 fun v6 =>
some (v6, h))
theorem S80_eq (c : CV) (a0 : AV) (h : AH) : enterK Tryz.prog NN P80 c 80 [a0] h = S80 c a0 h := by kernel_rfl
def W80 (c : CV) (l : List AV) (h : AH) : R := match l with | [a0] => S80 c a0 h | _ => none
theorem W80_ok : WOk Tryz.prog 80 W80 := by
  intro c l h r e
  unfold W80 at e
  split at e
  · exact ⟨P80, by rw [S80_eq]; exact e⟩
  · cases e
/- (*quietus/thread.Thread).pause -/
def P81 : Pl := (.n none .z (.n none (.n none .z (.n none (.n (some [11, 10, 4, 1, 0]) .z .z) .z)) .z))
def S81 (c : CV) (a0 a1 : AV) (h : AH) : R :=
pNil a0 fun v0 =>
pFieldA v0 12 fun v1 =>
pFieldA v1 3 fun v2 =>
pLoad1 h v2 fun v3 =>
pMM false [v3, (.int .i64 (.ofNat 8))] fun v4 =>
loopC (σ := AV × AV × AV × AV × AV × Unit) NN (fun i8 s5 h6 d7 =>
pInt .lss s5.1 s5.2.1 fun v9 =>
pCond v9 (
pInt .mul (.int .i64 (.ofNat 2)) s5.2.2.1 fun v10 =>
pMM false [v10, (.int .i64 (.ofNat 8))] fun v11 =>
pInt .add s5.1 (.int .i64 (.ofNat 1)) fun v12 =>
i8 (v12, s5.2.1, v11, s5.2.2.2.1, s5.2.2.2.2.1, ()) h6 d7) (
pConvI .i64 s5.2.2.2.1 fun v13 =>
pInt .add s5.2.2.1 (.int .i64 (.ofNat 1)) fun v14 =>
pInt .rem v13 v14 fun v15 =>
pNil s5.2.2.2.2.1 fun v16 =>
pFieldA v16 26 fun v17 =>
pStore h6 v17 v15 1 fun h18 =>
pNil s5.2.2.2.2.1 fun v19 =>
pFieldA v19 11 fun v20 =>
pStore h18 v20 (.int .i64 (.ofNat 3)) 1 fun h21 =>
pNil s5.2.2.2.2.1 fun v22 =>
pFieldA v22 26 fun v23 =>
pLoad1 h21 v23 fun v24 =>
pInt .eql v24 (.int .i64 (.ofNat 0)) fun v25 =>
pCond v25 (
pCall c (.fn 48 [] []) [s5.2.2.2.2.1] h21 fun _ h27 =>
pLeave d7 h27 fun h28 =>
some ((.tup []), h28)) (
pLeave d7 h21 fun h29 =>
some ((.tup []), h29)))) ((.int .i64 (.ofNat 0)), v4, (.int .i64 (.ofNat 1)), a1, a0, ()) h []
theorem S81_eq (c : CV) (a0 a1 : AV) (h : AH) : enterK Tryz.prog NN P81 c 81 [a0, a1] h = S81 c a0 a1 h := by kernel_rfl
def W81 (c : CV) (l : List AV) (h : AH) : R := match l with | [a0, a1] => S81 c a0 a1 h | _ => none
theorem W81_ok : WOk Tryz.prog 81 W81 := by
  intro c l h r e
  unfold W81 at e
  split at e
  · exact ⟨P81, by rw [S81_eq]; exact e⟩
  · cases e
/- (*quietus/thread.Thread).swept -/
def P82 : Pl := (.n (some [0]) (.n none .z (.n none (.n none .z (.n none (.n (some [14, 13, 12, 0]) .z .z) .z)) .z)) .z)
def S82 (c : CV) (a0 a1 : AV) (h : AH) : R :=
joinC (α := AV × Unit → AH → List Nat → R) (fun s0 h1 d2 =>
pCall c (.fn 46 [] []) [s0.1] h1 fun _ h5 =>
pLeave d2 h5 fun h6 =>
some ((.tup []), h6)) fun j3 =>
pInt .eql a1 (.int .i64 (.ofNat 4)) fun v7 =>
pCond v7 (
pNil a0 fun v8 =>
pFieldA v8 12 fun v9 =>
pFieldA v9 1 fun v10 =>
pLoad1 h v10 fun v11 =>
pLenS v11 fun v12 =>
loopC (σ := AV × AV × AV × AV × Unit) NN (fun i16 s13 h14 d15 =>
pInt .lss s13.1 s13.2.1 fun v17 =>
pCond v17 (
pIdxS s13.2.2.1 s13.1 2 fun v18 =>
pLoadN h14 v18 2 fun v19 =>
pBox h14 145 (.agg [(.int .i64 (.ofNat 0)), (.int .u64 (.ofNat 0))]) fun v20 h21 =>
pStore h21 v20 v19 2 fun h22 =>
pNil s13.2.2.2.1 fun v23 =>
pFieldA v23 21 fun v24 =>
pLoad1 h22 v24 fun v25 =>
pFieldA v20 1 fun v26 =>
pLoad1 h22 v26 fun v27 =>
pFieldA v20 0 fun v28 =>
pLoad1 h22 v28 fun v29 =>
pBuildS h22 3 [(.int .i64 (.ofNat 0))] 1 [(0, 1, v29)] fun v30 h31 =>
pCall c (.fn 86 [] []) [v25, v27, v30] h31 fun _ h33 =>
pInt .add s13.1 (.int .i64 (.ofNat 1)) fun v34 =>
i16 (v34, s13.2.1, s13.2.2.1, s13.2.2.2.1, ()) h33 d15) (
j3 (s13.2.2.2.1, ()) h14 d15)) ((.int .i64 (.ofNat 0)), v12, v11, a0, ()) h []) (
j3 (a0, ()) h [])
theorem S82_eq (c : CV) (a0 a1 : AV) (h : AH) : enterK Tryz.prog NN P82 c 82 [a0, a1] h = S82 c a0 a1 h := by kernel_rfl
def W82 (c : CV) (l : List AV) (h : AH) : R := match l with | [a0, a1] => S82 c a0 a1 h | _ => none
theorem W82_ok : WOk Tryz.prog 82 W82 := by
  intro c l h r e
  unfold W82 at e
  split at e
  · exact ⟨P82, by rw [S82_eq]; exact e⟩
  · cases e
/- (*quietus/attempt.Attempt).Err -/
def P83 : Pl := .z
def S83 (_ : CV) (a0 : AV) (h : AH) : R :=
pNil a0 fun v0 =>
pFieldA v0 14 fun v1 =>
pLoad1 h v1 fun v2 =>
pInt .neq v2 (.int .i64 (.ofNat 8)) fun v3 =>
pCond v3 (
some ((.int .i64 (.ofNat 0)), h)) (
pNil a0 fun v4 =>
pFieldA v4 24 fun v5 =>
pLoad1 h v5 fun v6 =>
some (v6, h))
theorem S83_eq (c : CV) (a0 : AV) (h : AH) : enterK Tryz.prog NN P83 c 83 [a0] h = S83 c a0 h := by kernel_rfl
def W83 (c : CV) (l : List AV) (h : AH) : R := match l with | [a0] => S83 c a0 h | _ => none
theorem W83_ok : WOk Tryz.prog 83 W83 := by
  intro c l h r e
  unfold W83 at e
  split at e
  · exact ⟨P83, by rw [S83_eq]; exact e⟩
  · cases e
/- (*quietus/attempt.Attempt).Slate -/
def P84 : Pl := (.n none .z (.n none (.n none (.r [[11, 6, 0]]) .z) .z))
def S84 (c : CV) (a0 : AV) (h : AH) : R :=
pCall c (.fn 115 [] []) [a0] h fun v0 h1 =>
pUn .not v0 fun v2 =>
joinC (α := AV × AV × AV × Unit → AH → R) (fun s3 h4 =>
pPick s3.2.1 (.bool true) s3.1 fun v6 =>
pCond v6 (
some ((.str []), h4)) (
pNil s3.2.2.1 fun v7 =>
pFieldA v7 9 fun v8 =>
pLoad1 h4 v8 fun v9 =>
pCall c (.fn 116 [] []) [v9] h4 fun v10 h11 =>
pCall c (.fn 117 [] []) [v10] h11 fun v12 h13 =>
some (v12, h13))) fun j5 =>
pWant v2 false (
pNil a0 fun v14 =>
pFieldA v14 9 fun v15 =>
pLoad1 h1 v15 fun v16 =>
pEq .ptr false v16 .nilp fun v17 =>
j5 (v17, v2, a0, ()) h1) (
j5 (.undef, v2, a0, ()) h1)
theorem S84_eq (c : CV) (a0 : AV) (h : AH) : enterK Tryz.prog NN P84 c 84 [a0] h = S84 c a0 h := by kernel_rfl
def W84 (c : CV) (l : List AV) (h : AH) : R := match l with | [a0] => S84 c a0 h | _ => none
theorem W84_ok : WOk Tryz.prog 84 W84 := by
  intro c l h r e
  unfold W84 at e
  split at e
  · exact ⟨P84, by rw [S84_eq]; exact e⟩
  · cases e
/- (*quietus/attempt.Attempt).Stamp -/
def P85 : Pl := .z
def S85 (_ : CV) (a0 : AV) (h : AH) : R :=
pNil a0 fun v0 =>
pFieldA v0 21 fun v1 =>
pLoad1 h v1 fun v2 =>
some (v2, h)
theorem S85_eq (c : CV) (a0 : AV) (h : AH) : enterK Tryz.prog NN P85 c 85 [a0] h = S85 c a0 h := by kernel_rfl
def W85 (c : CV) (l : List AV) (h : AH) : R := match l with | [a0] => S85 c a0 h | _ => none
theorem W85_ok : WOk Tryz.prog 85 W85 := by
  intro c l h r e
  unfold W85 at e
  split at e
  · exact ⟨P85, by rw [S85_eq]; exact e⟩
  · cases e
/- (*quietus/limbo.Limbo).Add -/
def P86 : Pl := (.n none .z (.n none (.n (some [10, 9, 8, 1, 0]) .z .z) .z))
def S86 (_ : CV) (a0 a1 a2 : AV) (h : AH) : R :=
pLenS a2 fun v0 =>
loopC (σ := AV × AV × AV × AV × AV × Unit) NN (fun i4 s1 h2 d3 =>
pInt .lss s1.1 s1.2.1 fun v5 =>
pCond v5 (
pIdxS s1.2.2.1 s1.1 1 fun v6 =>
pLoad1 h2 v6 fun v7 =>
pNil s1.2.2.2.2.1 fun v8 =>
pFieldA v8 0 fun v9 =>
pLoad1 h2 v9 fun v10 =>
pBuild [(.int .i64 (.ofNat 0)), (.int .u64 (.ofNat 0))] [(0, 1, v7), (1, 1, s1.2.2.2.1)] fun v11 =>
pBuildS h2 145 [(.int .i64 (.ofNat 0)), (.int .u64 (.ofNat 0))] 1 [(0, 2, v11)] fun v12 h13 =>
pAppend h13 145 2 v10 v12 fun v14 h15 =>
pNil s1.2.2.2.2.1 fun v16 =>
pFieldA v16 0 fun v17 =>
pStore h15 v17 v14 1 fun h18 =>
pInt .add s1.1 (.int .i64 (.ofNat 1)) fun v19 =>
i4 (v19, s1.2.1, s1.2.2.1, s1.2.2.2.1, s1.2.2.2.2.1, ()) h18 d3) (
pLeave d3 h2 fun h20 =>
some ((.tup []), h20))) ((.int .i64 (.ofNat 0)), v0, a2, a1, a0, ()) h []
theorem S86_eq (c : CV) (a0 a1 a2 : AV) (h : AH) : enterK Tryz.prog NN P86 c 86 [a0, a1, a2] h = S86 c a0 a1 a2 h := by kernel_rfl
def W86 (c : CV) (l : List AV) (h : AH) : R := match l with | [a0, a1, a2] => S86 c a0 a1 a2 h | _ => none
theorem W86_ok : WOk Tryz.prog 86 W86 := by
  intro c l h r e
  unfold W86 at e
  split at e
  · exact ⟨P86, by rw [S86_eq]; exact e⟩
  · cases e
/- (*quietus/attempt.Attempt).Frees -/
def P87 : Pl := .z
def S87 (c : CV) (a0 : AV) (h : AH) : R :=
pCall c (.fn 115 [] []) [a0] h fun v0 h1 =>
pUn .not v0 fun v2 =>
pCond v2 (
some (.nils, h1)) (
pNil a0 fun v3 =>
pFieldA v3 9 fun v4 =>
pLoad1 h1 v4 fun v5 =>
pEq .ptr false v5 .nilp fun v6 =>
pCond v6 (
pNil a0 fun v7 =>
pFieldA v7 10 fun v8 =>
pLoad1 h1 v8 fun v9 =>
pCall c (.fn 95 [] []) [v9] h1 fun v10 h11 =>
some (v10, h11)) (
pNil a0 fun v12 =>
pFieldA v12 12 fun v13 =>
pLoad1 h1 v13 fun v14 =>
pCall c (.fn 118 [] []) [v14] h1 fun v15 h16 =>
some (v15, h16)))
theorem S87_eq (c : CV) (a0 : AV) (h : AH) : enterK Tryz.prog NN P87 c 87 [a0] h = S87 c a0 h := by kernel_rfl
def W87 (c : CV) (l : List AV) (h : AH) : R := match l with | [a0] => S87 c a0 h | _ => none
theorem W87_ok : WOk Tryz.prog 87 W87 := by
  intro c l h r e
  unfold W87 at e
  split at e
  · exact ⟨P87, by rw [S87_eq]; exact e⟩
  · cases e
/- (*quietus/thread.Thread).over -/
def P88 : Pl := .z
def S88 (c : CV) (a0 : AV) (h : AH) : R :=
pNil a0 fun v0 =>
pFieldA v0 21 fun v1 =>
pLoad1 h v1 fun v2 =>
pCall c (.fn 119 [] []) [v2] h fun v3 h4 =>
pInt .eql v3 (.int .i64 (.ofNat 0)) fun v5 =>
pCond v5 (
pCall c (.fn 46 [] []) [a0] h4 fun _ h7 =>
some ((.tup []), h7)) (
pNil a0 fun v8 =>
pFieldA v8 11 fun v9 =>
pStore h4 v9 (.int .i64 (.ofNat 5)) 1 fun h10 =>
pNil a0 fun v11 =>
pFieldA v11 22 fun v12 =>
pStore h10 v12 .nils 1 fun h13 =>
pCall c (.fn 89 [] []) [a0] h13 fun _ h15 =>
some ((.tup []), h15))
theorem S88_eq (c : CV) (a0 : AV) (h : AH) : enterK Tryz.prog NN P88 c 88 [a0] h = S88 c a0 h := by kernel_rfl
def W88 (c : CV) (l : List AV) (h : AH) : R := match l with | [a0] => S88 c a0 h | _ => none
theorem W88_ok : WOk Tryz.prog 88 W88 := by
  intro c l h r e
  unfold W88 at e
  split at e
  · exact ⟨P88, by rw [S88_eq]; exact e⟩
  · cases e
/- (*quietus/thread.Thread).look -/
def P89 : Pl := (.n (some [0]) .z .z)
def S89 (c : CV) (a0 : AV) (h : AH) : R :=
joinC (α := AV × Unit → AH → List Nat → R) (fun s0 h1 d2 =>
pNil s0.1 fun v4 =>
pFieldA v4 22 fun v5 =>
pLoad1 h1 v5 fun v6 =>
pLenS v6 fun v7 =>
pNil s0.1 fun v8 =>
pFieldA v8 1 fun v9 =>
pFieldA v9 0 fun v10 =>
pFieldA v10 3 fun v11 =>
pLoad1 h1 v11 fun v12 =>
pInt .lss v7 v12 fun v13 =>
pCond v13 (
pLeave d2 h1 fun h14 =>
some ((.tup []), h14)) (
pNil s0.1 fun v15 =>
pFieldA v15 21 fun v16 =>
pLoad1 h1 v16 fun v17 =>
pNil s0.1 fun v18 =>
pFieldA v18 22 fun v19 =>
pLoad1 h1 v19 fun v20 =>
pCall c (.fn 120 [] []) [v17, v20] h1 fun v21 h22 =>
pLenS v21 fun v23 =>
pInt .eql v23 (.int .i64 (.ofNat 0)) fun v24 =>
pCond v24 (
pCall c (.fn 46 [] []) [s0.1] h22 fun _ h26 =>
pLeave d2 h26 fun h27 =>
some ((.tup []), h27)) (
pBuild [(.bool false), .nils, (.int .i64 (.ofNat 0)), (.int .i64 (.ofNat 0))] [(0, 1, (.bool true)), (1, 1, v21)] fun v28 =>
pNil s0.1 fun v29 =>
pFieldA v29 12 fun v30 =>
pStore h22 v30 v28 4 fun h31 =>
pCall c (.fn 48 [] []) [s0.1] h31 fun _ h33 =>
pLeave d2 h33 fun h34 =>
some ((.tup []), h34)))) fun j3 =>
pNil a0 fun v35 =>
pFieldA v35 22 fun v36 =>
pLoad1 h v36 fun v37 =>
pLenS v37 fun v38 =>
pNil a0 fun v39 =>
pFieldA v39 0 fun v40 =>
pLoad1 h v40 fun v41 =>
pInt .eql v38 v41 fun v42 =>
pCond v42 (
pNil a0 fun v43 =>
pFieldA v43 22 fun v44 =>
pLoad1 h v44 fun v45 =>
pBuildS h 22 [(.int .u64 (.ofNat 0))] 1 [(0, 1, (.int .u64 (.ofNat 0)))] fun v46 h47 =>
pAppend h47 22 1 v45 v46 fun v48 h49 =>
pNil a0 fun v50 =>
pFieldA v50 22 fun v51 =>
pStore h49 v51 v48 1 fun h52 =>
j3 (a0, ()) h52 []) (
j3 (a0, ()) h [])
theorem S89_eq (c : CV) (a0 : AV) (h : AH) : enterK Tryz.prog NN P89 c 89 [a0] h = S89 c a0 h := by kernel_rfl
def W89 (c : CV) (l : List AV) (h : AH) : R := match l with | [a0] => S89 c a0 h | _ => none
theorem W89_ok : WOk Tryz.prog 89 W89 := by
  intro c l h r e
  unfold W89 at e
  split at e
  · exact ⟨P89, by rw [S89_eq]; exact e⟩
  · cases e
/- (*quietus/reads.Reads).All -/
def P90 : Pl := .z
def S90 (c : CV) (a0 : AV) (h : AH) : R :=
pNil a0 fun v0 =>
pFieldA v0 1 fun v1 =>
pLoad1 h v1 fun v2 =>
pCall c (.fn 121 [] []) [v2] h fun v3 h4 =>
some (v3, h4)
theorem S90_eq (c : CV) (a0 : AV) (h : AH) : enterK Tryz.prog NN P90 c 90 [a0] h = S90 c a0 h := by kernel_rfl
def W90 (c : CV) (l : List AV) (h : AH) : R := match l with | [a0] => S90 c a0 h | _ => none
theorem W90_ok : WOk Tryz.prog 90 W90 := by
  intro c l h r e
  unfold W90 at e
  split at e
  · exact ⟨P90, by rw [S90_eq]; exact e⟩
  · cases e
/- slices.Clone[[]uint64,uint64] -/
def P91 : Pl := .z
def S91 (_ : CV) (a0 : AV) (h : AH) : R :=
pEq .slc false a0 .nils fun v0 =>
pCond v0 (
some (.nils, h)) (
pBuildS h 22 [(.int .u64 (.ofNat 0))] 0 [] fun v1 h2 =>
pAppend h2 22 1 v1 a0 fun v3 h4 =>
some (v3, h4))
theorem S91_eq (c : CV) (a0 : AV) (h : AH) : enterK Tryz.prog NN P91 c 91 [a0] h = S91 c a0 h := by kernel_rfl
def W91 (c : CV) (l : List AV) (h : AH) : R := match l with | [a0] => S91 c a0 h | _ => none
theorem W91_ok : WOk Tryz.prog 91 W91 := by
  intro c l h r e
  unfold W91 at e
  split at e
  · exact ⟨P91, by rw [S91_eq]; exact e⟩
  · cases e
/- (*quietus/commit.Commit).Writing -/
def P92 : Pl := (.n none .z (.n none (.r [[10, 7]]) .z))
def S92 (c : CV) (a0 : AV) (h : AH) : R :=
pNil a0 fun v0 =>
pFieldA v0 17 fun v1 =>
pLoad1 h v1 fun v2 =>
joinC (α := AV × AV × Unit → AH → R) (fun s3 h4 =>
pPick s3.2.1 s3.1 (.bool false) fun v6 =>
some (v6, h4)) fun j5 =>
pWant v2 true (
pCall c (.fn 93 [] []) [a0] h fun v7 h8 =>
pInt .eql v7 (.int .i64 (.ofNat 0)) fun v9 =>
j5 (v9, v2, ()) h8) (
j5 (.undef, v2, ()) h)
theorem S92_eq (c : CV) (a0 : AV) (h : AH) : enterK Tryz.prog NN P92 c 92 [a0] h = S92 c a0 h := by kernel_rfl
def W92 (c : CV) (l : List AV) (h : AH) : R := match l with | [a0] => S92 c a0 h | _ => none
theorem W92_ok : WOk Tryz.prog 92 W92 := by
  intro c l h r e
  unfold W92 at e
  split at e
  · exact ⟨P92, by rw [S92_eq]; exact e⟩
  · cases e
/- (*quietus/commit.Commit).End -/
def P93 : Pl := .z
def S93 (c : CV) (a0 : AV) (h : AH) : R :=
pNil a0 fun v0 =>
pFieldA v0 0 fun v1 =>
pCall c (.fn 122 [] []) [v1] h fun v2 h3 =>
some (v2, h3)
theorem S93_eq (c : CV) (a0 : AV) (h : AH) : enterK Tryz.prog NN P93 c 93 [a0] h = S93 c a0 h := by kernel_rfl
def W93 (c : CV) (l : List AV) (h : AH) : R := match l with | [a0] => S93 c a0 h | _ => none
theorem W93_ok : WOk Tryz.prog 93 W93 := by
  intro c l h r e
  unfold W93 at e
  split at e
  · exact ⟨P93, by rw [S93_eq]; exact e⟩
  · cases e
/- slices.Clone[[]quietus/api.Cell,quietus/api.Cell] -/
def P94 : Pl := .z
def S94 (_ : CV) (a0 : AV) (h : AH) : R :=
pEq .slc false a0 .nils fun v0 =>
pCond v0 (
some (.nils, h)) (
pBuildS h 158 [(.int .i64 (.ofNat 0)), (.int .u64 (.ofNat 0))] 0 [] fun v1 h2 =>
pAppend h2 158 2 v1 a0 fun v3 h4 =>
some (v3, h4))
theorem S94_eq (c : CV) (a0 : AV) (h : AH) : enterK Tryz.prog NN P94 c 94 [a0] h = S94 c a0 h := by kernel_rfl
def W94 (c : CV) (l : List AV) (h : AH) : R := match l with | [a0] => S94 c a0 h | _ => none
theorem W94_ok : WOk Tryz.prog 94 W94 := by
  intro c l h r e
  unfold W94 at e
  split at e
  · exact ⟨P94, by rw [S94_eq]; exact e⟩
  · cases e
/- slices.Clone[[]int,int] -/
def P95 : Pl := .z
def S95 (_ : CV) (a0 : AV) (h : AH) : R :=
pEq .slc false a0 .nils fun v0 =>
pCond v0 (
some (.nils, h)) (
pBuildS h 3 [(.int .i64 (.ofNat 0))] 0 [] fun v1 h2 =>
pAppend h2 3 1 v1 a0 fun v3 h4 =>
some (v3, h4))
theorem S95_eq (c : CV) (a0 : AV) (h : AH) : enterK Tryz.prog NN P95 c 95 [a0] h = S95 c a0 h := by kernel_rfl
def W95 (c : CV) (l : List AV) (h : AH) : R := match l with | [a0] => S95 c a0 h | _ => none
theorem W95_ok : WOk Tryz.prog 95 W95 := by
  intro c l h r e
  unfold W95 at e
  split at e
  · exact ⟨P95, by rw [S95_eq]; exact e⟩
  · cases e
/- (*quietus/attempt.Attempt).Reads -/
def P96 : Pl := .z
def S96 (c : CV) (a0 : AV) (h : AH) : R :=
pNil a0 fun v0 =>
pFieldA v0 12 fun v1 =>
pLoad1 h v1 fun v2 =>
pCall c (.fn 123 [] []) [v2] h fun v3 h4 =>
some (v3, h4)
theorem S96_eq (c : CV) (a0 : AV) (h : AH) : enterK Tryz.prog NN P96 c 96 [a0] h = S96 c a0 h := by kernel_rfl
def W96 (c : CV) (l : List AV) (h : AH) : R := match l with | [a0] => S96 c a0 h | _ => none
theorem W96_ok : WOk Tryz.prog 96 W96 := by
  intro c l h r e
  unfold W96 at e
  split at e
  · exact ⟨P96, by rw [S96_eq]; exact e⟩
  · cases e
/- (*quietus/attempt.Attempt).Cells -/
def P97 : Pl := .z
def S97 (c : CV) (a0 : AV) (h : AH) : R :=
pCall c (.fn 115 [] []) [a0] h fun v0 h1 =>
pUn .not v0 fun v2 =>
pCond v2 (
some (.nils, h1)) (
pNil a0 fun v3 =>
pFieldA v3 12 fun v4 =>
pLoad1 h1 v4 fun v5 =>
pCall c (.fn 110 [] []) [v5] h1 fun v6 h7 =>
some (v6, h7))
theorem S97_eq (c : CV) (a0 : AV) (h : AH) : enterK Tryz.prog NN P97 c 97 [a0] h = S97 c a0 h := by kernel_rfl
def W97 (c : CV) (l : List AV) (h : AH) : R := match l with | [a0] => S97 c a0 h | _ => none
theorem W97_ok : WOk Tryz.prog 97 W97 := by
  intro c l h r e
  unfold W97 at e
  split at e
  · exact ⟨P97, by rw [S97_eq]; exact e⟩
  · cases e
/- slices.Clone[[]quietus/api.Lock,quietus/api.Lock] -/
def P98 : Pl := .z
def S98 (_ : CV) (a0 : AV) (h : AH) : R :=
pEq .slc false a0 .nils fun v0 =>
pCond v0 (
some (.nils, h)) (
pBuildS h 60 [(.int .u64 (.ofNat 0)), (.bool false), (.int .i64 (.ofNat 0))] 0 [] fun v1 h2 =>
pAppend h2 60 3 v1 a0 fun v3 h4 =>
some (v3, h4))
theorem S98_eq (c : CV) (a0 : AV) (h : AH) : enterK Tryz.prog NN P98 c 98 [a0] h = S98 c a0 h := by kernel_rfl
def W98 (c : CV) (l : List AV) (h : AH) : R := match l with | [a0] => S98 c a0 h | _ => none
theorem W98_ok : WOk Tryz.prog 98 W98 := by
  intro c l h r e
  unfold W98 at e
  split at e
  · exact ⟨P98, by rw [S98_eq]; exact e⟩
  · cases e
/- slices.Clone[[]quietus/api.Rest,quietus/api.Rest] -/
def P99 : Pl := .z
def S99 (_ : CV) (a0 : AV) (h : AH) : R :=
pEq .slc false a0 .nils fun v0 =>
pCond v0 (
some (.nils, h)) (
pBuildS h 145 [(.int .i64 (.ofNat 0)), (.int .u64 (.ofNat 0))] 0 [] fun v1 h2 =>
pAppend h2 145 2 v1 a0 fun v3 h4 =>
some (v3, h4))
theorem S99_eq (c : CV) (a0 : AV) (h : AH) : enterK Tryz.prog NN P99 c 99 [a0] h = S99 c a0 h := by kernel_rfl
def W99 (c : CV) (l : List AV) (h : AH) : R := match l with | [a0] => S99 c a0 h | _ => none
theorem W99_ok : WOk Tryz.prog 99 W99 := by
  intro c l h r e
  unfold W99 at e
  split at e
  · exact ⟨P99, by rw [S99_eq]; exact e⟩
  · cases e
/- (*quietus/heap.Heap).is -/
def P100 : Pl := (.n none .z (.n none (.r [[14, 7]]) .z))
def S100 (_ : CV) (a0 a1 : AV) (h : AH) : R :=
pInt .geq a1 (.int .i64 (.ofNat 1)) fun v0 =>
joinC (α := AV × AV × Unit → AH → R) (fun s1 h2 =>
pPick s1.2.1 s1.1 (.bool false) fun v4 =>
some (v4, h2)) fun j3 =>
pWant v0 true (
pNil a0 fun v5 =>
pFieldA v5 0 fun v6 =>
pLoad1 h v6 fun v7 =>
pLenS v7 fun v8 =>
pInt .lss a1 v8 fun v9 =>
j3 (v9, v0, ()) h) (
j3 (.undef, v0, ()) h)
theorem S100_eq (c : CV) (a0 a1 : AV) (h : AH) : enterK Tryz.prog NN P100 c 100 [a0, a1] h = S100 c a0 a1 h := by kernel_rfl
def W100 (c : CV) (l : List AV) (h : AH) : R := match l with | [a0, a1] => S100 c a0 a1 h | _ => none
theorem W100_ok : WOk Tryz.prog 100 W100 := by
  intro c l h r e
  unfold W100 at e
  split at e
  · exact ⟨P100, by rw [S100_eq]; exact e⟩
  · cases e
/- (*quietus/stripe.Table).is -/
def P101 : Pl := (.n none .z (.n none (.r [[14, 7]]) .z))
def S101 (_ : CV) (a0 a1 : AV) (h : AH) : R :=
pInt .geq a1 (.int .i64 (.ofNat 0)) fun v0 =>
joinC (α := AV × AV × Unit → AH → R) (fun s1 h2 =>
pPick s1.2.1 s1.1 (.bool false) fun v4 =>
some (v4, h2)) fun j3 =>
pWant v0 true (
pNil a0 fun v5 =>
pFieldA v5 0 fun v6 =>
pLoad1 h v6 fun v7 =>
pLenS v7 fun v8 =>
pInt .lss a1 v8 fun v9 =>
j3 (v9, v0, ()) h) (
j3 (.undef, v0, ()) h)
theorem S101_eq (c : CV) (a0 a1 : AV) (h : AH) : enterK Tryz.prog NN P101 c 101 [a0, a1] h = S101 c a0 a1 h := by kernel_rfl
def W101 (c : CV) (l : List AV) (h : AH) : R := match l with | [a0, a1] => S101 c a0 a1 h | _ => none
theorem W101_ok : WOk Tryz.prog 101 W101 := by
  intro c l h r e
  unfold W101 at e
  split at e
  · exact ⟨P101, by rw [S101_eq]; exact e⟩
  · cases e
/- (*quietus/stripe.Table).may -/
def P102 : Pl := .z
def S102 (c : CV) (a0 a1 a2 : AV) (h : AH) : R :=
pBox h 60 a2 fun v0 h1 =>
pCall c (.fn 101 [] []) [a0, a1] h1 fun v2 h3 =>
pUn .not v2 fun v4 =>
pCond v4 (
some ((.int .i64 (.ofNat 2)), h3)) (
pLoadN h3 v0 3 fun v5 =>
pCall c (.fn 124 [] []) [v5] h3 fun v6 h7 =>
pUn .not v6 fun v8 =>
pCond v8 (
some ((.int .i64 (.ofNat 1)), h7)) (
some ((.int .i64 (.ofNat 0)), h7)))
theorem S102_eq (c : CV) (a0 a1 a2 : AV) (h : AH) : enterK Tryz.prog NN P102 c 102 [a0, a1, a2] h = S102 c a0 a1 a2 h := by kernel_rfl
def W102 (c : CV) (l : List AV) (h : AH) : R := match l with | [a0, a1, a2] => S102 c a0 a1 a2 h | _ => none
theorem W102_ok : WOk Tryz.prog 102 W102 := by
  intro c l h r e
  unfold W102 at e
  split at e
  · exact ⟨P102, by rw [S102_eq]; exact e⟩
  · cases e
/- (*quietus/epoch.Slots).is -/
def P103 : Pl := (.n none .z (.n none (.r [[14, 7]]) .z))
def S103 (_ : CV) (a0 a1 : AV) (h : AH) : R :=
pInt .geq a1 (.int .i64 (.ofNat 0)) fun v0 =>
joinC (α := AV × AV × Unit → AH → R) (fun s1 h2 =>
pPick s1.2.1 s1.1 (.bool false) fun v4 =>
some (v4, h2)) fun j3 =>
pWant v0 true (
pNil a0 fun v5 =>
pFieldA v5 0 fun v6 =>
pLoad1 h v6 fun v7 =>
pLenS v7 fun v8 =>
pInt .lss a1 v8 fun v9 =>
j3 (v9, v0, ()) h) (
j3 (.undef, v0, ()) h)
theorem S103_eq (c : CV) (a0 a1 : AV) (h : AH) : enterK Tryz.prog NN P103 c 103 [a0, a1] h = S103 c a0 a1 h := by kernel_rfl
def W103 (c : CV) (l : List AV) (h : AH) : R := match l with | [a0, a1] => S103 c a0 a1 h | _ => none
theorem W103_ok : WOk Tryz.prog 103 W103 := by
  intro c l h r e
  unfold W103 at e
  split at e
  · exact ⟨P103, by rw [S103_eq]; exact e⟩
  · cases e
/- quietus/attempt.fresh -/
def P104 : Pl := (.n none .z (.n none .z (.n none (.r [[4]]) .z)))
def S104 (c : CV) (a0 a1 : AV) (h : AH) : R :=
pBox h 26 a1 fun v0 h1 =>
pLoadN h1 v0 8 fun v2 =>
pCall c (.fn 19 [] []) [v2] h1 fun v3 h4 =>
pStore h4 v0 v3 8 fun h5 =>
joinC (α := AV × Unit → AH → R) (fun s6 h7 =>
some (s6.1, h7)) fun j8 =>
pLoadN h5 v0 8 fun v9 =>
pFieldA v0 0 fun v10 =>
pFieldA v10 0 fun v11 =>
pLoad1 h5 v11 fun v12 =>
pFieldA v0 6 fun v13 =>
pLoad1 h5 v13 fun v14 =>
pCall c (.fn 125 [] []) [v12, v14] h5 fun v15 h16 =>
pCall c (.fn 126 [] []) [(.int .i64 (.ofNat 16))] h16 fun v17 h18 =>
pBuild [(.int .i64 (.ofNat 0)), (.int .i64 (.ofNat 0)), (.int .i64 (.ofNat 0)), (.int .i64 (.ofNat 0)), (.int .i64 (.ofNat 0)), (.int .u64 (.ofNat 0)), (.int .i64 (.ofNat 0)), (.int .i64 (.ofNat 0)), (.int .i64 (.ofNat 0)), .nilp, .nils, (.int .i64 (.ofNat 0)), .nilp, .nilp, (.int .i64 (.ofNat 0)), .nili, .nilp, .nilp, .nilp, (.bool false), (.int .u64 (.ofNat 0)), (.int .u64 (.ofNat 0)), (.int .i64 (.ofNat 0)), (.int .i64 (.ofNat 0)), (.int .i64 (.ofNat 0)), (.bool false)] [(0, 1, a0), (1, 8, v9), (12, 1, v15), (13, 1, v17), (23, 1, (.int .i64 (.negSucc 0)))] fun v19 =>
pBox h18 143 v19 fun v20 h21 =>
pChk v0 (some 8) v9 h16 h18 h5.nx <|
pChk v0 (some 8) v9 h5 h16 h5.nx <|
j8 (v20, ()) h21
theorem S104_eq (c : CV) (a0 a1 : AV) (h : AH) : enterK Tryz.prog NN P104 c 104 [a0, a1] h = S104 c a0 a1 h := by kernel_rfl
def W104 (c : CV) (l : List AV) (h : AH) : R := match l with | [a0, a1] => S104 c a0 a1 h | _ => none
theorem W104_ok : WOk Tryz.prog 104 W104 := by
  intro c l h r e
  unfold W104 at e
  split at e
  · exact ⟨P104, by rw [S104_eq]; exact e⟩
  · cases e
/- quietus/interp.New -/
def P105 : Pl := (.n none .z (.n none .z (.n none .z (.n none (.r [[6]]) .z))))
def S105 (c : CV) (a0 a1 a2 : AV) (h : AH) : R :=
pBox h 31 a0 fun v0 h1 =>
pFieldA v0 0 fun v2 =>
pLoad1 h1 v2 fun v3 =>
pAppend h1 28 5 .nils v3 fun v4 h5 =>
pFieldA v0 0 fun v6 =>
pStore h5 v6 v4 1 fun h7 =>
pLoadN h7 v0 1 fun v8 =>
pCall c (.fn 127 [] []) [v8] h7 fun v9 h10 =>
pExtract v9 0 fun _ =>
pExtract v9 1 fun v12 =>
joinC (α := AV × Unit → AH → R) (fun s13 h14 =>
some (s13.1, h14)) fun j15 =>
pLoadN h10 v0 1 fun v16 =>
pLoadN h10 v0 1 fun v17 =>
pCall c (.fn 128 [] []) [v17] h10 fun v18 h19 =>
pCall c (.fn 129 [] []) [] h19 fun v20 h21 =>
pMM false [a2, (.int .i64 (.ofNat 400))] fun v22 =>
pMM true [(.int .i64 (.ofNat 0)), v22] fun v23 =>
pBuild [.nils, .nilp, .nils, (.int .i64 (.ofNat 0)), (.int .i64 (.ofNat 0)), (.int .i64 (.ofNat 0)), (.int .u64 (.ofNat 0)), (.int .u64 (.ofNat 0)), (.int .u64 (.ofNat 0)), (.int .u64 (.ofNat 0)), (.int .u64 (.ofNat 0)), (.int .u64 (.ofNat 0)), (.int .u64 (.ofNat 0)), (.int .u64 (.ofNat 0)), .nilp, (.int .i64 (.ofNat 0)), (.int .i64 (.ofNat 0)), (.int .i64 (.ofNat 0)), .nils] [(0, 1, v16), (1, 1, a1), (2, 1, v18), (3, 1, v12), (14, 1, v20), (17, 1, v23)] fun v24 =>
pBox h21 188 v24 fun v25 h26 =>
pChk v0 (some 1) v16 h19 h21 h10.nx <|
pChk v0 (some 1) v16 h10 h19 h10.nx <|
j15 (v25, ()) h26
theorem S105_eq (c : CV) (a0 a1 a2 : AV) (h : AH) : enterK Tryz.prog NN P105 c 105 [a0, a1, a2] h = S105 c a0 a1 a2 h := by kernel_rfl
def W105 (c : CV) (l : List AV) (h : AH) : R := match l with | [a0, a1, a2] => S105 c a0 a1 a2 h | _ => none
theorem W105_ok : WOk Tryz.prog 105 W105 := by
  intro c l h r e
  unfold W105 at e
  split at e
  · exact ⟨P105, by rw [S105_eq]; exact e⟩
  · cases e
/- (*quietus/attempt.Attempt).do -/
def P106 : Pl := (.n none .z (.n none (.n none .z (.n none (.n none (.r [[3, 2]]) .z) .z)) (.n none (.n none (.n (some [0]) .z .z) .z) .z)))
def S106 (c : CV) (a0 : AV) (h : AH) : R :=
pNil a0 fun v0 =>
pFieldA v0 9 fun v1 =>
pLoad1 h v1 fun v2 =>
pEq .ptr true v2 .nilp fun v3 =>
pCond v3 (
joinC (α := AV × AV × Unit → AH → R) (fun s4 h5 =>
some ((.tup [s4.2.1, s4.1]), h5)) fun j6 =>
pNil a0 fun v7 =>
pFieldA v7 9 fun v8 =>
pLoad1 h v8 fun v9 =>
pCall c (.fn 130 [] []) [v9] h fun v10 h11 =>
pNil a0 fun v12 =>
pFieldA v12 9 fun v13 =>
pLoad1 h11 v13 fun v14 =>
pCall c (.fn 131 [] []) [v14] h11 fun v15 h16 =>
pChk v13 none v14 h h11 h.nx <|
j6 (v15, v10, ()) h16) (
loopC (σ := AV × Unit) NN (fun i20 s17 h18 d19 =>
pNil s17.1 fun v21 =>
pFieldA v21 11 fun v22 =>
pLoad1 h18 v22 fun v23 =>
pNil s17.1 fun v24 =>
pFieldA v24 10 fun v25 =>
pLoad1 h18 v25 fun v26 =>
pLenS v26 fun v27 =>
pInt .lss v23 v27 fun v28 =>
pCond v28 (
pNil s17.1 fun v29 =>
pFieldA v29 12 fun v30 =>
pLoad1 h18 v30 fun v31 =>
pNil s17.1 fun v32 =>
pFieldA v32 10 fun v33 =>
pLoad1 h18 v33 fun v34 =>
pNil s17.1 fun v35 =>
pFieldA v35 11 fun v36 =>
pLoad1 h18 v36 fun v37 =>
pIdxS v34 v37 1 fun v38 =>
pLoad1 h18 v38 fun v39 =>
pCall c (.fn 132 [] []) [v31, v39] h18 fun v40 h41 =>
pInt .eql v40 (.int .i64 (.ofNat 0)) fun v42 =>
pCond v42 (
pNil s17.1 fun v43 =>
pFieldA v43 11 fun v44 =>
pLoad1 h41 v44 fun v45 =>
pInt .add v45 (.int .i64 (.ofNat 1)) fun v46 =>
pNil s17.1 fun v47 =>
pFieldA v47 11 fun v48 =>
pStore h41 v48 v46 1 fun h49 =>
i20 (s17.1, ()) h49 d19) (
pInt .eql v40 (.int .i64 (.ofNat 11)) fun v50 =>
pCond v50 (
pLeave d19 h41 fun h51 =>
some ((.tup [(.int .i64 (.ofNat 1)), (.int .i64 (.ofNat 0))]), h51)) (
pLeave d19 h41 fun h52 =>
some ((.tup [(.int .i64 (.ofNat 4)), v40]), h52)))) (
pLeave d19 h18 fun h53 =>
some ((.tup [(.int .i64 (.ofNat 2)), (.int .i64 (.ofNat 0))]), h53))) (a0, ()) h [])
theorem S106_eq (c : CV) (a0 : AV) (h : AH) : enterK Tryz.prog NN P106 c 106 [a0] h = S106 c a0 h := by kernel_rfl
def W106 (c : CV) (l : List AV) (h : AH) : R := match l with | [a0] => S106 c a0 h | _ => none
theorem W106_ok : WOk Tryz.prog 106 W106 := by
  intro c l h r e
  unfold W106 at e
  split at e
  · exact ⟨P106, by rw [S106_eq]; exact e⟩
  · cases e
/- (*quietus/attempt.Attempt).ask -/
def P107 : Pl := (.n none (.r [[0]]) .z)
def S107 (c : CV) (a0 a1 : AV) (h : AH) : R :=
joinC (α := AV × Unit → AH → R) (fun s0 h1 =>
pNil s0.1 fun v3 =>
pFieldA v3 16 fun v4 =>
pLoad1 h1 v4 fun v5 =>
pCall c (.fn 112 [] []) [s0.1, (.int .i64 (.ofNat 3)), (.iface 139 v5)] h1 fun _ h7 =>
some ((.tup []), h7)) fun j2 =>
pNil a0 fun v8 =>
pFieldA v8 0 fun v9 =>
pLoad1 h v9 fun v10 =>
pNil a0 fun v11 =>
pFieldA v11 1 fun v12 =>
pFieldA v12 0 fun v13 =>
pFieldA v13 1 fun v14 =>
pLoad1 h v14 fun v15 =>
pNil a0 fun v16 =>
pFieldA v16 1 fun v17 =>
pFieldA v17 0 fun v18 =>
pFieldA v18 2 fun v19 =>
pLoad1 h v19 fun v20 =>
pCall c (.fn 134 [] []) [a1, v15, v20] h fun v21 h22 =>
pNil a0 fun v23 =>
pFieldA v23 1 fun v24 =>
pFieldA v24 5 fun v25 =>
pLoad1 h22 v25 fun v26 =>
pNil a0 fun v27 =>
pFieldA v27 21 fun v28 =>
pLoad1 h22 v28 fun v29 =>
pCall c (.fn 133 [] []) [v10, a1, v21, v26, v29] h22 fun v30 h31 =>
pNil a0 fun v32 =>
pFieldA v32 16 fun v33 =>
pStore h31 v33 v30 1 fun h34 =>
pChk v28 none v29 h h22 h.nx <|
pChk v25 none v26 h h22 h.nx <|
pChk v9 none v10 h h22 h.nx <|
j2 (a0, ()) h34
theorem S107_eq (c : CV) (a0 a1 : AV) (h : AH) : enterK Tryz.prog NN P107 c 107 [a0, a1] h = S107 c a0 a1 h := by kernel_rfl
def W107 (c : CV) (l : List AV) (h : AH) : R := match l with | [a0, a1] => S107 c a0 a1 h | _ => none
theorem W107_ok : WOk Tryz.prog 107 W107 := by
  intro c l h r e
  unfold W107 at e
  split at e
  · exact ⟨P107, by rw [S107_eq]; exact e⟩
  · cases e
/- (*quietus/view.View).Need -/
def P108 : Pl := .z
def S108 (_ : CV) (a0 : AV) (h : AH) : R :=
pNil a0 fun v0 =>
pFieldA v0 3 fun v1 =>
pLoad1 h v1 fun v2 =>
some (v2, h)
theorem S108_eq (c : CV) (a0 : AV) (h : AH) : enterK Tryz.prog NN P108 c 108 [a0] h = S108 c a0 h := by kernel_rfl
def W108 (c : CV) (l : List AV) (h : AH) : R := match l with | [a0] => S108 c a0 h | _ => none
theorem W108_ok : WOk Tryz.prog 108 W108 := by
  intro c l h r e
  unfold W108 at e
  split at e
  · exact ⟨P108, by rw [S108_eq]; exact e⟩
  · cases e
/- (*quietus/attempt.Attempt).later -/
def P109 : Pl := (.n none (.r [[1, 0]]) .z)
def S109 (c : CV) (a0 a1 : AV) (h : AH) : R :=
joinC (α := AV × AV × Unit → AH → R) (fun s0 h1 =>
pNil s0.2.1 fun v3 =>
pFieldA v3 17 fun v4 =>
pLoad1 h1 v4 fun v5 =>
pCall c (.fn 112 [] []) [s0.2.1, s0.1, (.iface 140 v5)] h1 fun _ h7 =>
some ((.tup []), h7)) fun j2 =>
pNil a0 fun v8 =>
pFieldA v8 0 fun v9 =>
pLoad1 h v9 fun v10 =>
pNil a0 fun v11 =>
pFieldA v11 1 fun v12 =>
pFieldA v12 5 fun v13 =>
pLoad1 h v13 fun v14 =>
pNil a0 fun v15 =>
pFieldA v15 13 fun v16 =>
pLoad1 h v16 fun v17 =>
pCall c (.fn 90 [] []) [v17] h fun v18 h19 =>
pCall c (.fn 135 [] []) [v10, v14, v18] h19 fun v20 h21 =>
pNil a0 fun v22 =>
pFieldA v22 17 fun v23 =>
pStore h21 v23 v20 1 fun h24 =>
pChk v13 none v14 h h19 h.nx <|
pChk v9 none v10 h h19 h.nx <|
j2 (a1, a0, ()) h24
theorem S109_eq (c : CV) (a0 a1 : AV) (h : AH) : enterK Tryz.prog NN P109 c 109 [a0, a1] h = S109 c a0 a1 h := by kernel_rfl
def W109 (c : CV) (l : List AV) (h : AH) : R := match l with | [a0, a1] => S109 c a0 a1 h | _ => none
theorem W109_ok : WOk Tryz.prog 109 W109 := by
  intro c l h r e
  unfold W109 at e
  split at e
  · exact ⟨P109, by rw [S109_eq]; exact e⟩
  · cases e
/- (*quietus/view.View).Cells -/
def P110 : Pl := .z
def S110 (c : CV) (a0 : AV) (h : AH) : R :=
pNil a0 fun v0 =>
pFieldA v0 2 fun v1 =>
pLoad1 h v1 fun v2 =>
pCall c (.fn 136 [] []) [v2] h fun v3 h4 =>
some (v3, h4)
theorem S110_eq (c : CV) (a0 : AV) (h : AH) : enterK Tryz.prog NN P110 c 110 [a0] h = S110 c a0 h := by kernel_rfl
def W110 (c : CV) (l : List AV) (h : AH) : R := match l with | [a0] => S110 c a0 h | _ => none
theorem W110_ok : WOk Tryz.prog 110 W110 := by
  intro c l h r e
  unfold W110 at e
  split at e
  · exact ⟨P110, by rw [S110_eq]; exact e⟩
  · cases e
/- quietus/commit.New -/
def P111 : Pl := .z
def S111 (c : CV) (a0 a1 a2 a3 a4 a5 a6 : AV) (h : AH) : R :=
pCall c (.fn 137 [] []) [a0, a1] h fun v0 h1 =>
pCall c (.fn 121 [] []) [a3] h1 fun v2 h3 =>
pCall c (.fn 94 [] []) [a4] h3 fun v4 h5 =>
pCall c (.fn 138 [] []) [a4, a5, a6] h5 fun v6 h7 =>
pBuild [(.int .i64 (.ofNat 0)), (.int .i64 (.ofNat 0)), (.int .i64 (.ofNat 0)), (.int .i64 (.ofNat 0)), (.int .i64 (.ofNat 0)), (.int .i64 (.ofNat 0)), (.int .u64 (.ofNat 0)), .nils, .nils, .nils, .nils, (.int .i64 (.ofNat 0)), (.int .i64 (.ofNat 0)), (.int .u64 (.ofNat 0)), (.bool false), (.int .i64 (.ofNat 0)), (.int .u64 (.ofNat 0)), (.bool false), (.int .i64 (.ofNat 0)), (.int .i64 (.ofNat 0)), (.int .i64 (.ofNat 0))] [(0, 5, v0), (5, 1, a0), (6, 1, a2), (7, 1, v2), (8, 1, v4), (9, 1, v6)] fun v8 =>
pBox h7 179 v8 fun v9 h10 =>
pCall c (.fn 139 [] []) [v9] h10 fun _ h12 =>
some (v9, h12)
theorem S111_eq (c : CV) (a0 a1 a2 a3 a4 a5 a6 : AV) (h : AH) : enterK Tryz.prog NN P111 c 111 [a0, a1, a2, a3, a4, a5, a6] h = S111 c a0 a1 a2 a3 a4 a5 a6 h := by kernel_rfl
def W111 (c : CV) (l : List AV) (h : AH) : R := match l with | [a0, a1, a2, a3, a4, a5, a6] => S111 c a0 a1 a2 a3 a4 a5 a6 h | _ => none
theorem W111_ok : WOk Tryz.prog 111 W111 := by
  intro c l h r e
  unfold W111 at e
  split at e
  · exact ⟨P111, by rw [S111_eq]; exact e⟩
  · cases e
/- (*quietus/attempt.Attempt).enter -/
def P112 : Pl := .z
def S112 (_ : CV) (a0 a1 a2 : AV) (h : AH) : R :=
pNil a0 fun v0 =>
pFieldA v0 14 fun v1 =>
pStore h v1 a1 1 fun h2 =>
pNil a0 fun v3 =>
pFieldA v3 15 fun v4 =>
pStore h2 v4 a2 1 fun h5 =>
some ((.tup []), h5)
theorem S112_eq (c : CV) (a0 a1 a2 : AV) (h : AH) : enterK Tryz.prog NN P112 c 112 [a0, a1, a2] h = S112 c a0 a1 a2 h := by kernel_rfl
def W112 (c : CV) (l : List AV) (h : AH) : R := match l with | [a0, a1, a2] => S112 c a0 a1 a2 h | _ => none
theorem W112_ok : WOk Tryz.prog 112 W112 := by
  intro c l h r e
  unfold W112 at e
  split at e
  · exact ⟨P112, by rw [S112_eq]; exact e⟩
  · cases e
/- (*quietus/attempt.Attempt).ended -/
def P113 : Pl := (.n none .z (.n (some []) (.n none .z (.n none .z (.n none .z (.n none .z (.n none .z (.n none .z (.n none .z (.n none (.r [[]]) .z)))))))) .z))
def S113 (c : CV) (a0 : AV) (h : AH) : R :=
pNil a0 fun v0 =>
pFieldA v0 14 fun v1 =>
pLoad1 h v1 fun v2 =>
joinC (α := Unit → AH → List Nat → R) (fun _ h4 d5 =>
pLeave d5 h4 fun h7 =>
some ((.tup []), h7)) fun j6 =>
pInt .eql v2 (.int .i64 (.ofNat 3)) fun v8 =>
pCond v8 (
pCall c (.fn 140 [] []) [a0] h fun _ h10 =>
j6 (()) h10 []) (
pInt .eql v2 (.int .i64 (.ofNat 4)) fun v11 =>
pCond v11 (
pNil a0 fun v12 =>
pFieldA v12 17 fun v13 =>
pLoad1 h v13 fun v14 =>
pCall c (.fn 141 [] []) [v14] h fun v15 h16 =>
pNil a0 fun v17 =>
pFieldA v17 21 fun v18 =>
pStore h16 v18 v15 1 fun h19 =>
pNil a0 fun v20 =>
pFieldA v20 12 fun v21 =>
pLoad1 h19 v21 fun v22 =>
pCall c (.fn 108 [] []) [v22] h19 fun v23 h24 =>
pCall c (.fn 107 [] []) [a0, v23] h24 fun _ h26 =>
j6 (()) h26 []) (
pInt .eql v2 (.int .i64 (.ofNat 5)) fun v27 =>
pCond v27 (
pNil a0 fun v28 =>
pFieldA v28 17 fun v29 =>
pLoad1 h v29 fun v30 =>
pCall c (.fn 141 [] []) [v30] h fun v31 h32 =>
pNil a0 fun v33 =>
pFieldA v33 21 fun v34 =>
pStore h32 v34 v31 1 fun h35 =>
pCall c (.fn 77 [] []) [a0, (.int .i64 (.ofNat 3)), (.int .i64 (.ofNat 0)), (.int .i64 (.negSucc 0))] h35 fun _ h37 =>
j6 (()) h37 []) (
pInt .eql v2 (.int .i64 (.ofNat 6)) fun v38 =>
pCond v38 (
joinC (α := Unit → AH → R) (fun _ h40 =>
j6 (()) h40 []) fun j41 =>
pNil a0 fun v42 =>
pFieldA v42 18 fun v43 =>
pLoad1 h v43 fun v44 =>
pCall c (.fn 93 [] []) [v44] h fun v45 h46 =>
pNil a0 fun v47 =>
pFieldA v47 18 fun v48 =>
pLoad1 h46 v48 fun v49 =>
pCall c (.fn 142 [] []) [v49] h46 fun v50 h51 =>
pCall c (.fn 77 [] []) [a0, v45, v50, (.int .i64 (.negSucc 0))] h51 fun _ h53 =>
pChk v48 none v49 h h46 h.nx <|
j41 (()) h53) (
j6 (()) h []))))
theorem S113_eq (c : CV) (a0 : AV) (h : AH) : enterK Tryz.prog NN P113 c 113 [a0] h = S113 c a0 h := by kernel_rfl
def W113 (c : CV) (l : List AV) (h : AH) : R := match l with | [a0] => S113 c a0 h | _ => none
theorem W113_ok : WOk Tryz.prog 113 W113 := by
  intro c l h r e
  unfold W113 at e
  split at e
  · exact ⟨P113, by rw [S113_eq]; exact e⟩
  · cases e
/- (*quietus/commit.Commit).Stamp -/
def P114 : Pl := .z
def S114 (_ : CV) (a0 : AV) (h : AH) : R :=
pNil a0 fun v0 =>
pFieldA v0 17 fun v1 =>
pLoad1 h v1 fun v2 =>
pUn .not v2 fun v3 =>
pCond v3 (
some ((.int .u64 (.ofNat 0)), h)) (
pNil a0 fun v4 =>
pFieldA v4 16 fun v5 =>
pLoad1 h v5 fun v6 =>
pInt .add v6 (.int .u64 (.ofNat 1)) fun v7 =>
some (v7, h))
theorem S114_eq (c : CV) (a0 : AV) (h : AH) : enterK Tryz.prog NN P114 c 114 [a0] h = S114 c a0 h := by kernel_rfl
def W114 (c : CV) (l : List AV) (h : AH) : R := match l with | [a0] => S114 c a0 h | _ => none
theorem W114_ok : WOk Tryz.prog 114 W114 := by
  intro c l h r e
  unfold W114 at e
  split at e
  · exact ⟨P114, by rw [S114_eq]; exact e⟩
  · cases e
/- (*quietus/attempt.Attempt).committed -/
def P115 : Pl := (.n none .z (.n none (.r [[8, 6]]) .z))
def S115 (c : CV) (a0 : AV) (h : AH) : R :=
pCall c (.fn 51 [] []) [a0] h fun v0 h1 =>
pInt .eql v0 (.int .i64 (.ofNat 2)) fun v2 =>
joinC (α := AV × AV × Unit → AH → R) (fun s3 h4 =>
pPick s3.2.1 (.bool true) s3.1 fun v6 =>
some (v6, h4)) fun j5 =>
pWant v2 false (
pCall c (.fn 60 [] []) [a0] h1 fun v7 h8 =>
j5 (v7, v2, ()) h8) (
j5 (.undef, v2, ()) h1)
theorem S115_eq (c : CV) (a0 : AV) (h : AH) : enterK Tryz.prog NN P115 c 115 [a0] h = S115 c a0 h := by kernel_rfl
def W115 (c : CV) (l : List AV) (h : AH) : R := match l with | [a0] => S115 c a0 h | _ => none
theorem W115_ok : WOk Tryz.prog 115 W115 := by
  intro c l h r e
  unfold W115 at e
  split at e
  · exact ⟨P115, by rw [S115_eq]; exact e⟩
  · cases e
/- (*quietus/interp.Interp).Slate -/
def P116 : Pl := .z
def S116 (c : CV) (a0 : AV) (h : AH) : R :=
pNil a0 fun v0 =>
pFieldA v0 14 fun v1 =>
pLoad1 h v1 fun v2 =>
pCall c (.fn 143 [] []) [v2] h fun v3 h4 =>
some (v3, h4)
theorem S116_eq (c : CV) (a0 : AV) (h : AH) : enterK Tryz.prog NN P116 c 116 [a0] h = S116 c a0 h := by kernel_rfl
def W116 (c : CV) (l : List AV) (h : AH) : R := match l with | [a0] => S116 c a0 h | _ => none
theorem W116_ok : WOk Tryz.prog 116 W116 := by
  intro c l h r e
  unfold W116 at e
  split at e
  · exact ⟨P116, by rw [S116_eq]; exact e⟩
  · cases e
/- (*quietus/slate.Slate).Text -/
def P117 : Pl := (.n none .z (.n none .z (.n none (.n none .z (.n none (.n (some [17, 16, 15, 3]) .z .z) .z)) .z)))
def S117 (c : CV) (a0 : AV) (h : AH) : R :=
pNil a0 fun v0 =>
pFieldA v0 0 fun v1 =>
pLoad1 h v1 fun v2 =>
pLenS v2 fun v3 =>
pMake h 9 [(.str [])] v3 v3 fun v4 h5 =>
pNil a0 fun v6 =>
pFieldA v6 0 fun v7 =>
pLoad1 h5 v7 fun v8 =>
pLenS v8 fun v9 =>
loopC (σ := AV × AV × AV × AV × Unit) NN (fun i13 s10 h11 d12 =>
pInt .lss s10.1 s10.2.1 fun v14 =>
pCond v14 (
pIdxS s10.2.2.1 s10.1 1 fun v15 =>
pLoad1 h11 v15 fun v16 =>
pCall c (.fn 144 [] []) [v16] h11 fun v17 h18 =>
pIdxS s10.2.2.2.1 s10.1 1 fun v19 =>
pStore h18 v19 v17 1 fun h20 =>
pInt .add s10.1 (.int .i64 (.ofNat 1)) fun v21 =>
i13 (v21, s10.2.1, s10.2.2.1, s10.2.2.2.1, ()) h20 d12) (
pCall c (.fn 145 [] []) [s10.2.2.2.1, (.str [32])] h11 fun v22 h23 =>
pLeave d12 h23 fun h24 =>
some (v22, h24))) ((.int .i64 (.ofNat 0)), v9, v8, v4, ()) h5 []
theorem S117_eq (c : CV) (a0 : AV) (h : AH) : enterK Tryz.prog NN P117 c 117 [a0] h = S117 c a0 h := by kernel_rfl
def W117 (c : CV) (l : List AV) (h : AH) : R := match l with | [a0] => S117 c a0 h | _ => none
theorem W117_ok : WOk Tryz.prog 117 W117 := by
  intro c l h r e
  unfold W117 at e
  split at e
  · exact ⟨P117, by rw [S117_eq]; exact e⟩
  · cases e
/- (*quietus/view.View).Frees -/
def P118 : Pl := .z
def S118 (c : CV) (a0 : AV) (h : AH) : R :=
pNil a0 fun v0 =>
pFieldA v0 2 fun v1 =>
pLoad1 h v1 fun v2 =>
pCall c (.fn 146 [] []) [v2] h fun v3 h4 =>
some (v3, h4)
theorem S118_eq (c : CV) (a0 : AV) (h : AH) : enterK Tryz.prog NN P118 c 118 [a0] h = S118 c a0 h := by kernel_rfl
def W118 (c : CV) (l : List AV) (h : AH) : R := match l with | [a0] => S118 c a0 h | _ => none
theorem W118_ok : WOk Tryz.prog 118 W118 := by
  intro c l h r e
  unfold W118 at e
  split at e
  · exact ⟨P118, by rw [S118_eq]; exact e⟩
  · cases e
/- (*quietus/limbo.Limbo).Len -/
def P119 : Pl := .z
def S119 (_ : CV) (a0 : AV) (h : AH) : R :=
pNil a0 fun v0 =>
pFieldA v0 0 fun v1 =>
pLoad1 h v1 fun v2 =>
pLenS v2 fun v3 =>
some (v3, h)
theorem S119_eq (c : CV) (a0 : AV) (h : AH) : enterK Tryz.prog NN P119 c 119 [a0] h = S119 c a0 h := by kernel_rfl
def W119 (c : CV) (l : List AV) (h : AH) : R := match l with | [a0] => S119 c a0 h | _ => none
theorem W119_ok : WOk Tryz.prog 119 W119 := by
  intro c l h r e
  unfold W119 at e
  split at e
  · exact ⟨P119, by rw [S119_eq]; exact e⟩
  · cases e
/- (*quietus/limbo.Limbo).Ripe -/
def P120 : Pl := (.n none .z (.n none .z (.n none (.n none .z (.n none (.n (some [14, 13, 12, 6, 5, 1, 0]) (.n none .z (.n none .z (.n none (.n (some [14, 13, 12, 6, 5, 1, 0]) .z .z) .z))) .z) .z)) .z)))
def S120 (c : CV) (a0 a1 : AV) (h : AH) : R :=
pNil a0 fun v0 =>
pFieldA v0 0 fun v1 =>
pLoad1 h v1 fun v2 =>
pLenS v2 fun v3 =>
loopC (σ := AV × AV × AV × AV × AV × AV × AV × Unit) NN (fun i7 s4 h5 d6 =>
pInt .lss s4.1 s4.2.1 fun v8 =>
pCond v8 (
joinC (α := AV × AV × AV × AV × AV × AV × AV × Unit → AH → List Nat → R) (fun s9 h10 d11 =>
pInt .add s9.1 (.int .i64 (.ofNat 1)) fun v13 =>
i7 (v13, s9.2.1, s9.2.2.1, s9.2.2.2.1, s9.2.2.2.2.1, s9.2.2.2.2.2.1, s9.2.2.2.2.2.2.1, ()) h10 d11) fun j12 =>
pIdxS s4.2.2.1 s4.1 2 fun v14 =>
pLoadN h5 v14 2 fun v15 =>
pBox h5 145 (.agg [(.int .i64 (.ofNat 0)), (.int .u64 (.ofNat 0))]) fun v16 h17 =>
pStore h17 v16 v15 2 fun h18 =>
pFieldA v16 1 fun v19 =>
pLoad1 h18 v19 fun v20 =>
pCall c (.fn 147 [] []) [s4.2.2.2.2.2.1, v20] h18 fun v21 h22 =>
pCond v21 (
pLoadN h22 v16 2 fun v23 =>
pBuildS h22 145 [(.int .i64 (.ofNat 0)), (.int .u64 (.ofNat 0))] 1 [(0, 2, v23)] fun v24 h25 =>
pAppend h25 145 2 s4.2.2.2.2.1 v24 fun v26 h27 =>
j12 (s4.1, s4.2.1, s4.2.2.1, s4.2.2.2.1, v26, s4.2.2.2.2.2.1, s4.2.2.2.2.2.2.1, ()) h27 d6) (
pLoadN h22 v16 2 fun v28 =>
pBuildS h22 145 [(.int .i64 (.ofNat 0)), (.int .u64 (.ofNat 0))] 1 [(0, 2, v28)] fun v29 h30 =>
pAppend h30 145 2 s4.2.2.2.1 v29 fun v31 h32 =>
j12 (s4.1, s4.2.1, s4.2.2.1, v31, s4.2.2.2.2.1, s4.2.2.2.2.2.1, s4.2.2.2.2.2.2.1, ()) h32 d6)) (
pNil s4.2.2.2.2.2.2.1 fun v33 =>
pFieldA v33 0 fun v34 =>
pStore h5 v34 s4.2.2.2.1 1 fun h35 =>
pLeave d6 h35 fun h36 =>
some (s4.2.2.2.2.1, h36))) ((.int .i64 (.ofNat 0)), v3, v2, .nils, .nils, a1, a0, ()) h []
theorem S120_eq (c : CV) (a0 a1 : AV) (h : AH) : enterK Tryz.prog NN P120 c 120 [a0, a1] h = S120 c a0 a1 h := by kernel_rfl
def W120 (c : CV) (l : List AV) (h : AH) : R := match l with | [a0, a1] => S120 c a0 a1 h | _ => none
theorem W120_ok : WOk Tryz.prog 120 W120 := by
  intro c l h r e
  unfold W120 at e
  split at e
  · exact ⟨P120, by rw [S120_eq]; exact e⟩
  · cases e
/- slices.Clone[[]quietus/api.Seen,quietus/api.Seen] -/
def P121 : Pl := .z
def S121 (_ : CV) (a0 : AV) (h : AH) : R :=
pEq .slc false a0 .nils fun v0 =>
pCond v0 (
some (.nils, h)) (
pBuildS h 106 [(.int .i64 (.ofNat 0)), (.int .u64 (.ofNat 0))] 0 [] fun v1 h2 =>
pAppend h2 106 2 v1 a0 fun v3 h4 =>
some (v3, h4))
theorem S121_eq (c : CV) (a0 : AV) (h : AH) : enterK Tryz.prog NN P121 c 121 [a0] h = S121 c a0 h := by kernel_rfl
def W121 (c : CV) (l : List AV) (h : AH) : R := match l with | [a0] => S121 c a0 h | _ => none
theorem W121_ok : WOk Tryz.prog 121 W121 := by
  intro c l h r e
  unfold W121 at e
  split at e
  · exact ⟨P121, by rw [S121_eq]; exact e⟩
  · cases e
/- (*quietus/patience.Patience).End -/
def P122 : Pl := .z
def S122 (_ : CV) (a0 : AV) (h : AH) : R :=
pNil a0 fun v0 =>
pFieldA v0 2 fun v1 =>
pLoad1 h v1 fun v2 =>
some (v2, h)
theorem S122_eq (c : CV) (a0 : AV) (h : AH) : enterK Tryz.prog NN P122 c 122 [a0] h = S122 c a0 h := by kernel_rfl
def W122 (c : CV) (l : List AV) (h : AH) : R := match l with | [a0] => S122 c a0 h | _ => none
theorem W122_ok : WOk Tryz.prog 122 W122 := by
  intro c l h r e
  unfold W122 at e
  split at e
  · exact ⟨P122, by rw [S122_eq]; exact e⟩
  · cases e
/- (*quietus/view.View).Known -/
def P123 : Pl := (.n none .z (.n none .z (.n none (.n none .z (.n none (.n (some [17, 16, 15, 3, 0]) .z .z) .z)) .z)))
def S123 (_ : CV) (a0 : AV) (h : AH) : R :=
pNil a0 fun v0 =>
pFieldA v0 1 fun v1 =>
pLoad1 h v1 fun v2 =>
pLenS v2 fun v3 =>
pMake h 158 [(.int .i64 (.ofNat 0)), (.int .u64 (.ofNat 0))] (.int .i64 (.ofNat 0)) v3 fun v4 h5 =>
pNil a0 fun v6 =>
pFieldA v6 1 fun v7 =>
pLoad1 h5 v7 fun v8 =>
pLenS v8 fun v9 =>
loopC (σ := AV × AV × AV × AV × AV × Unit) NN (fun i13 s10 h11 d12 =>
pInt .lss s10.1 s10.2.1 fun v14 =>
pCond v14 (
pIdxS s10.2.2.1 s10.1 1 fun v15 =>
pLoad1 h11 v15 fun v16 =>
pNil s10.2.2.2.2.1 fun v17 =>
pFieldA v17 0 fun v18 =>
pLoad1 h11 v18 fun v19 =>
pIdxS v19 v16 2 fun v20 =>
pFieldA v20 0 fun v21 =>
pLoad1 h11 v21 fun v22 =>
pBuild [(.int .i64 (.ofNat 0)), (.int .u64 (.ofNat 0))] [(0, 1, v16), (1, 1, v22)] fun v23 =>
pBuildS h11 158 [(.int .i64 (.ofNat 0)), (.int .u64 (.ofNat 0))] 1 [(0, 2, v23)] fun v24 h25 =>
pAppend h25 158 2 s10.2.2.2.1 v24 fun v26 h27 =>
pInt .add s10.1 (.int .i64 (.ofNat 1)) fun v28 =>
i13 (v28, s10.2.1, s10.2.2.1, v26, s10.2.2.2.2.1, ()) h27 d12) (
pLeave d12 h11 fun h29 =>
some (s10.2.2.2.1, h29))) ((.int .i64 (.ofNat 0)), v9, v8, v4, a0, ()) h5 []
theorem S123_eq (c : CV) (a0 : AV) (h : AH) : enterK Tryz.prog NN P123 c 123 [a0] h = S123 c a0 h := by kernel_rfl
def W123 (c : CV) (l : List AV) (h : AH) : R := match l with | [a0] => S123 c a0 h | _ => none
theorem W123_ok : WOk Tryz.prog 123 W123 := by
  intro c l h r e
  unfold W123 at e
  split at e
  · exact ⟨P123, by rw [S123_eq]; exact e⟩
  · cases e
/- quietus/lock.Is -/
def P124 : Pl := (.n none .z (.n none (.n none .z (.n none (.n none (.r [[11, 8]]) .z) .z)) (.n none (.r [[19, 16]]) .z)))
def S124 (c : CV) (a0 : AV) (h : AH) : R :=
pBox h 60 a0 fun v0 h1 =>
pFieldA v0 1 fun v2 =>
pLoad1 h1 v2 fun v3 =>
pCond v3 (
pFieldA v0 0 fun v4 =>
pLoad1 h1 v4 fun v5 =>
pInt .lss v5 (.int .u64 (.ofNat 4611686018427387904)) fun v6 =>
joinC (α := AV × AV × Unit → AH → R) (fun s7 h8 =>
pPick s7.2.1 s7.1 (.bool false) fun v10 =>
some (v10, h8)) fun j9 =>
pWant v6 true (
pFieldA v0 2 fun v11 =>
pLoad1 h1 v11 fun v12 =>
pCall c (.fn 148 [] []) [v12] h1 fun v13 h14 =>
j9 (v13, v6, ()) h14) (
j9 (.undef, v6, ()) h1)) (
pFieldA v0 0 fun v15 =>
pLoad1 h1 v15 fun v16 =>
pInt .lss v16 (.int .u64 (.ofNat 4611686018427387904)) fun v17 =>
joinC (α := AV × AV × Unit → AH → R) (fun s18 h19 =>
pPick s18.2.1 s18.1 (.bool false) fun v21 =>
some (v21, h19)) fun j20 =>
pWant v17 true (
pFieldA v0 2 fun v22 =>
pLoad1 h1 v22 fun v23 =>
pInt .eql v23 (.int .i64 (.ofNat 0)) fun v24 =>
j20 (v24, v17, ()) h1) (
j20 (.undef, v17, ()) h1))
theorem S124_eq (c : CV) (a0 : AV) (h : AH) : enterK Tryz.prog NN P124 c 124 [a0] h = S124 c a0 h := by kernel_rfl
def W124 (c : CV) (l : List AV) (h : AH) : R := match l with | [a0] => S124 c a0 h | _ => none
theorem W124_ok : WOk Tryz.prog 124 W124 := by
  intro c l h r e
  unfold W124 at e
  split at e
  · exact ⟨P124, by rw [S124_eq]; exact e⟩
  · cases e
/- quietus/view.New -/
def P125 : Pl := .z
def S125 (c : CV) (a0 a1 : AV) (h : AH) : R :=
pMM false [a0, (.int .i64 (.ofNat 256))] fun v0 =>
pMM true [(.int .i64 (.ofNat 32)), v0] fun v1 =>
pMake h 208 [(.int .u64 (.ofNat 0)), (.bool false)] v1 v1 fun v2 h3 =>
pCall c (.fn 149 [] []) [a1] h3 fun v4 h5 =>
pBuild [.nils, .nils, .nilp, (.int .i64 (.ofNat 0))] [(0, 1, v2), (2, 1, v4)] fun v6 =>
pBox h5 195 v6 fun v7 h8 =>
some (v7, h8)
theorem S125_eq (c : CV) (a0 a1 : AV) (h : AH) : enterK Tryz.prog NN P125 c 125 [a0, a1] h = S125 c a0 a1 h := by kernel_rfl
def W125 (c : CV) (l : List AV) (h : AH) : R := match l with | [a0, a1] => S125 c a0 a1 h | _ => none
theorem W125_ok : WOk Tryz.prog 125 W125 := by
  intro c l h r e
  unfold W125 at e
  split at e
  · exact ⟨P125, by rw [S125_eq]; exact e⟩
  · cases e
/- quietus/reads.New -/
def P126 : Pl := .z
def S126 (_ : CV) (a0 : AV) (h : AH) : R :=
pMM false [a0, (.int .i64 (.ofNat 16))] fun v0 =>
pMM true [(.int .i64 (.ofNat 1)), v0] fun v1 =>
pBuild [(.int .i64 (.ofNat 0)), .nils] [(0, 1, v1)] fun v2 =>
pBox h 175 v2 fun v3 h4 =>
some (v3, h4)
theorem S126_eq (c : CV) (a0 : AV) (h : AH) : enterK Tryz.prog NN P126 c 126 [a0] h = S126 c a0 h := by kernel_rfl
def W126 (c : CV) (l : List AV) (h : AH) : R := match l with | [a0] => S126 c a0 h | _ => none
theorem W126_ok : WOk Tryz.prog 126 W126 := by
  intro c l h r e
  unfold W126 at e
  split at e
  · exact ⟨P126, by rw [S126_eq]; exact e⟩
  · cases e
/- quietus/check.Run -/
def P127 : Pl := (.n none .z (.n none (.n none (.r [[16, 12, 1]]) .z) (.n none .z (.n none (.n none .z (.n none (.n (some [21, 20, 19, 4, 1]) .z .z) .z)) (.n none .z (.n none (.r [[3, 2]]) .z))))))
def S127 (c : CV) (a0 : AV) (h : AH) : R :=
pBox h 31 a0 fun v0 h1 =>
pFieldA v0 0 fun v2 =>
pLoad1 h1 v2 fun v3 =>
pLenS v3 fun v4 =>
pInt .eql v4 (.int .i64 (.ofNat 0)) fun v5 =>
joinC (α := AV × AV × AV × Unit → AH → R) (fun s6 h7 =>
pPick s6.2.1 (.bool true) s6.1 fun v9 =>
pCond v9 (
some ((.tup [(.int .i64 (.ofNat 0)), (.int .i64 (.ofNat 4))]), h7)) (
pFieldA s6.2.2.1 0 fun v10 =>
pLoad1 h7 v10 fun v11 =>
pLenS v11 fun v12 =>
loopC (σ := AV × AV × AV × AV × AV × Unit) NN (fun i16 s13 h14 d15 =>
pInt .lss s13.1 s13.2.1 fun v17 =>
pCond v17 (
pIdxS s13.2.2.1 s13.1 5 fun v18 =>
pLoadN h14 v18 5 fun v19 =>
pBox h14 28 (.agg [(.int .i64 (.ofNat 0)), (.int .i64 (.ofNat 0)), (.int .i64 (.ofNat 0)), (.int .i64 (.ofNat 0)), (.int .u64 (.ofNat 0))]) fun v20 h21 =>
pStore h21 v20 v19 5 fun h22 =>
pLoadN h22 s13.2.2.2.2.1 1 fun v23 =>
pLoadN h22 v20 5 fun v24 =>
pCall c (.fn 150 [] []) [v23, s13.2.2.2.1, v24] h22 fun v25 h26 =>
pInt .neq v25 (.int .i64 (.ofNat 0)) fun v27 =>
pCond v27 (
pLeave d15 h26 fun h28 =>
some ((.tup [s13.1, v25]), h28)) (
pFieldA v20 0 fun v29 =>
pLoad1 h26 v29 fun v30 =>
pCall c (.fn 151 [] []) [s13.2.2.2.1, s13.1, v30] h26 fun v31 h32 =>
pInt .add s13.1 (.int .i64 (.ofNat 1)) fun v33 =>
i16 (v33, s13.2.1, s13.2.2.1, v31, s13.2.2.2.2.1, ()) h32 d15)) (
pLenS s13.2.2.2.1 fun v34 =>
pInt .gtr v34 (.int .i64 (.ofNat 0)) fun v35 =>
pCond v35 (
pCall c (.fn 152 [] []) [s13.2.2.2.1] h14 fun v36 h37 =>
pLeave d15 h37 fun h38 =>
some ((.tup [v36, (.int .i64 (.ofNat 12))]), h38)) (
joinC (α := AV × AV × Unit → AH → R) (fun s39 h40 =>
pLeave d15 h40 fun h42 =>
some ((.tup [s39.2.1, s39.1]), h42)) fun j41 =>
pLoadN h14 s13.2.2.2.2.1 1 fun v43 =>
pLoadN h14 s13.2.2.2.2.1 1 fun v44 =>
pCall c (.fn 154 [] []) [v44] h14 fun v45 h46 =>
pCall c (.fn 153 [] []) [v43, v45] h46 fun v47 h48 =>
pExtract v47 0 fun v49 =>
pExtract v47 1 fun v50 =>
pChk s13.2.2.2.2.1 (some 1) v43 h14 h46 h14.nx <|
j41 (v50, v49, ()) h48))) ((.int .i64 (.ofNat 0)), v12, v11, .nils, s6.2.2.1, ()) h7 [])) fun j8 =>
pWant v5 false (
pFieldA v0 0 fun v51 =>
pLoad1 h1 v51 fun v52 =>
pLenS v52 fun v53 =>
pInt .gtr v53 (.int .i64 (.ofNat 40)) fun v54 =>
j8 (v54, v5, v0, ()) h1) (
j8 (.undef, v5, v0, ()) h1)
theorem S127_eq (c : CV) (a0 : AV) (h : AH) : enterK Tryz.prog NN P127 c 127 [a0] h = S127 c a0 h := by kernel_rfl
def W127 (c : CV) (l : List AV) (h : AH) : R := match l with | [a0] => S127 c a0 h | _ => none
theorem W127_ok : WOk Tryz.prog 127 W127 := by
  intro c l h r e
  unfold W127 at e
  split at e
  · exact ⟨P127, by rw [S127_eq]; exact e⟩
  · cases e
/- quietus/check.Match -/
def P128 : Pl := (.n none .z (.n none .z (.n none .z (.n none .z (.n none (.n none .z (.n none (.n (some [27, 26, 6, 5, 1]) .z .z) .z)) (.n none (.n none .z (.n none (.n (some [37, 36, 35, 6, 5, 1]) (.n none .z (.n none .z (.n none (.n (some [37, 36, 35, 6, 5, 1]) .z .z) .z))) .z) .z)) (.n none (.n none .z (.n none (.n (some [57, 56, 55, 6, 5]) (.n none .z (.n none .z (.n none (.n (some [57, 56, 55, 6, 5]) .z .z) .z))) .z) .z)) .z)))))))
def S128 (c : CV) (a0 : AV) (h : AH) : R :=
pBox h 31 a0 fun v0 h1 =>
pLoadN h1 v0 1 fun v2 =>
pCall c (.fn 127 [] []) [v2] h1 fun v3 h4 =>
pExtract v3 0 fun _ =>
pExtract v3 1 fun v6 =>
pInt .neq v6 (.int .i64 (.ofNat 0)) fun v7 =>
pCond v7 (
some (.nils, h4)) (
pLoadN h4 v0 1 fun v8 =>
pCall c (.fn 154 [] []) [v8] h4 fun v9 h10 =>
pFieldA v0 0 fun v11 =>
pLoad1 h10 v11 fun v12 =>
pLenS v12 fun v13 =>
pMake h10 3 [(.int .i64 (.ofNat 0))] v13 v13 fun v14 h15 =>
pLenS v14 fun v16 =>
loopC (σ := AV × AV × AV × AV × AV × Unit) NN (fun i20 s17 h18 d19 =>
pInt .lss s17.1 s17.2.1 fun v21 =>
pCond v21 (
pIdxS s17.2.2.1 s17.1 1 fun v22 =>
pStore h18 v22 (.int .i64 (.negSucc 0)) 1 fun h23 =>
pInt .add s17.1 (.int .i64 (.ofNat 1)) fun v24 =>
i20 (v24, s17.2.1, s17.2.2.1, s17.2.2.2.1, s17.2.2.2.2.1, ()) h23 d19) (
pFieldA s17.2.2.2.2.1 0 fun v25 =>
pLoad1 h18 v25 fun v26 =>
pLenS v26 fun v27 =>
loopC (σ := AV × AV × AV × AV × AV × AV × Unit) NN (fun i31 s28 h29 d30 =>
pInt .lss s28.1 s28.2.1 fun v32 =>
pCond v32 (
joinC (α := AV × AV × AV × AV × AV × AV × Unit → AH → List Nat → R) (fun s33 h34 d35 =>
pInt .add s33.1 (.int .i64 (.ofNat 1)) fun v37 =>
i31 (v37, s33.2.1, s33.2.2.1, s33.2.2.2.1, s33.2.2.2.2.1, s33.2.2.2.2.2.1, ()) h34 d35) fun j36 =>
pIdxS s28.2.2.1 s28.1 5 fun v38 =>
pLoadN h29 v38 5 fun v39 =>
pBox h29 28 (.agg [(.int .i64 (.ofNat 0)), (.int .i64 (.ofNat 0)), (.int .i64 (.ofNat 0)), (.int .i64 (.ofNat 0)), (.int .u64 (.ofNat 0))]) fun v40 h41 =>
pStore h41 v40 v39 5 fun h42 =>
pFieldA v40 0 fun v43 =>
pLoad1 h42 v43 fun v44 =>
pCall c (.fn 155 [] []) [v44] h42 fun v45 h46 =>
pInt .gtr v45 (.int .i64 (.ofNat 0)) fun v47 =>
pCond v47 (
pIdxS s28.2.2.2.2.1 s28.1 1 fun v48 =>
pLoad1 h46 v48 fun v49 =>
pIdxS s28.2.2.2.1 v49 1 fun v50 =>
pStore h46 v50 s28.1 1 fun h51 =>
j36 (s28.1, s28.2.1, s28.2.2.1, s28.2.2.2.1, s28.2.2.2.2.1, s28.2.2.2.2.2.1, ()) h51 d30) (
j36 (s28.1, s28.2.1, s28.2.2.1, s28.2.2.2.1, s28.2.2.2.2.1, s28.2.2.2.2.2.1, ()) h46 d30)) (
pFieldA s28.2.2.2.2.2.1 0 fun v52 =>
pLoad1 h29 v52 fun v53 =>
pLenS v53 fun v54 =>
loopC (σ := AV × AV × AV × AV × AV × Unit) NN (fun i58 s55 h56 d57 =>
pInt .lss s55.1 s55.2.1 fun v59 =>
pCond v59 (
joinC (α := AV × AV × AV × AV × AV × Unit → AH → List Nat → R) (fun s60 h61 d62 =>
pInt .add s60.1 (.int .i64 (.ofNat 1)) fun v64 =>
i58 (v64, s60.2.1, s60.2.2.1, s60.2.2.2.1, s60.2.2.2.2.1, ()) h61 d62) fun j63 =>
pIdxS s55.2.2.1 s55.1 5 fun v65 =>
pLoadN h56 v65 5 fun v66 =>
pBox h56 28 (.agg [(.int .i64 (.ofNat 0)), (.int .i64 (.ofNat 0)), (.int .i64 (.ofNat 0)), (.int .i64 (.ofNat 0)), (.int .u64 (.ofNat 0))]) fun v67 h68 =>
pStore h68 v67 v66 5 fun h69 =>
pFieldA v67 0 fun v70 =>
pLoad1 h69 v70 fun v71 =>
pInt .eql v71 (.int .i64 (.ofNat 16)) fun v72 =>
pCond v72 (
pIdxS s55.2.2.2.2.1 s55.1 1 fun v73 =>
pLoad1 h69 v73 fun v74 =>
pIdxS s55.2.2.2.1 v74 1 fun v75 =>
pLoad1 h69 v75 fun v76 =>
pIdxS s55.2.2.2.1 s55.1 1 fun v77 =>
pStore h69 v77 v76 1 fun h78 =>
j63 (s55.1, s55.2.1, s55.2.2.1, s55.2.2.2.1, s55.2.2.2.2.1, ()) h78 d57) (
j63 (s55.1, s55.2.1, s55.2.2.1, s55.2.2.2.1, s55.2.2.2.2.1, ()) h69 d57)) (
pLeave d57 h56 fun h79 =>
some (s55.2.2.2.1, h79))) ((.int .i64 (.ofNat 0)), v54, v53, s28.2.2.2.1, s28.2.2.2.2.1, ()) h29 d30)) ((.int .i64 (.ofNat 0)), v27, v26, s17.2.2.1, s17.2.2.2.1, s17.2.2.2.2.1, ()) h18 d19)) ((.int .i64 (.ofNat 0)), v16, v14, v9, v0, ()) h15 [])
theorem S128_eq (c : CV) (a0 : AV) (h : AH) : enterK Tryz.prog NN P128 c 128 [a0] h = S128 c a0 h := by kernel_rfl
def W128 (c : CV) (l : List AV) (h : AH) : R := match l with | [a0] => S128 c a0 h | _ => none
theorem W128_ok : WOk Tryz.prog 128 W128 := by
  intro c l h r e
  unfold W128 at e
  split at e
  · exact ⟨P128, by rw [S128_eq]; exact e⟩
  · cases e
/- quietus/slate.New -/
def P129 : Pl := .z
def S129 (_ : CV) (h : AH) : R :=
pBuild [.nils] [] fun v0 =>
pBox h 202 v0 fun v1 h2 =>
some (v1, h2)
theorem S129_eq (c : CV) (h : AH) : enterK Tryz.prog NN P129 c 129 [] h = S129 c h := by kernel_rfl
def W129 (c : CV) (l : List AV) (h : AH) : R := match l with | [] => S129 c h | _ => none
theorem W129_ok : WOk Tryz.prog 129 W129 := by
  intro c l h r e
  unfold W129 at e
  split at e
  · exact ⟨P129, by rw [S129_eq]; exact e⟩
  · cases e
/- (*quietus/interp.Interp).Run -/
def P130 : Pl := (.n none .z (.n none (.n none (.n (some [0]) (.n none .z (.n (some [0]) (.n none .z (.n none .z (.n none .z (.n none .z (.n (some [0]) .z .z))))) .z)) .z) .z) .z))
def S130 (c : CV) (a0 : AV) (h : AH) : R :=
loopC (σ := AV × Unit) NN (fun i3 s0 h1 d2 =>
pNil s0.1 fun v4 =>
pFieldA v4 5 fun v5 =>
pLoad1 h1 v5 fun v6 =>
pInt .eql v6 (.int .i64 (.ofNat 0)) fun v7 =>
pCond v7 (
joinC (α := AV × Unit → AH → List Nat → R) (fun s8 h9 d10 =>
i3 (s8.1, ()) h9 d10) fun j11 =>
pNil s0.1 fun v12 =>
pFieldA v12 3 fun v13 =>
pLoad1 h1 v13 fun v14 =>
pInt .neq v14 (.int .i64 (.ofNat 0)) fun v15 =>
pCond v15 (
pNil s0.1 fun v16 =>
pFieldA v16 3 fun v17 =>
pLoad1 h1 v17 fun v18 =>
pCall c (.fn 156 [] []) [s0.1, v18] h1 fun _ h20 =>
j11 (s0.1, ()) h20 d2) (
pNil s0.1 fun v21 =>
pFieldA v21 15 fun v22 =>
pLoad1 h1 v22 fun v23 =>
pNil s0.1 fun v24 =>
pFieldA v24 0 fun v25 =>
pFieldA v25 0 fun v26 =>
pLoad1 h1 v26 fun v27 =>
pLenS v27 fun v28 =>
pInt .eql v23 v28 fun v29 =>
pCond v29 (
pNil s0.1 fun v30 =>
pFieldA v30 5 fun v31 =>
pStore h1 v31 (.int .i64 (.ofNat 2)) 1 fun h32 =>
j11 (s0.1, ()) h32 d2) (
pNil s0.1 fun v33 =>
pFieldA v33 17 fun v34 =>
pLoad1 h1 v34 fun v35 =>
pInt .eql v35 (.int .i64 (.ofNat 0)) fun v36 =>
pCond v36 (
pCall c (.fn 156 [] []) [s0.1, (.int .i64 (.ofNat 6))] h1 fun _ h38 =>
j11 (s0.1, ()) h38 d2) (
pNil s0.1 fun v39 =>
pFieldA v39 15 fun v40 =>
pLoad1 h1 v40 fun v41 =>
pInt .add v41 (.int .i64 (.ofNat 1)) fun v42 =>
pNil s0.1 fun v43 =>
pFieldA v43 16 fun v44 =>
pStore h1 v44 v42 1 fun h45 =>
pNil s0.1 fun v46 =>
pFieldA v46 0 fun v47 =>
pFieldA v47 0 fun v48 =>
pLoad1 h45 v48 fun v49 =>
pNil s0.1 fun v50 =>
pFieldA v50 15 fun v51 =>
pLoad1 h45 v51 fun v52 =>
pIdxS v49 v52 5 fun v53 =>
pLoadN h45 v53 5 fun v54 =>
pCall c (.fn 157 [] []) [s0.1, v54] h45 fun v55 h56 =>
joinC (α := AV × Unit → AH → List Nat → R) (fun s57 h58 d59 =>
j11 (s57.1, ()) h58 d59) fun j60 =>
pInt .eql v55 (.int .i64 (.ofNat 0)) fun v61 =>
pCond v61 (
pNil s0.1 fun v62 =>
pFieldA v62 16 fun v63 =>
pLoad1 h56 v63 fun v64 =>
pNil s0.1 fun v65 =>
pFieldA v65 15 fun v66 =>
pStore h56 v66 v64 1 fun h67 =>
pNil s0.1 fun v68 =>
pFieldA v68 17 fun v69 =>
pLoad1 h67 v69 fun v70 =>
pInt .sub v70 (.int .i64 (.ofNat 1)) fun v71 =>
pNil s0.1 fun v72 =>
pFieldA v72 17 fun v73 =>
pStore h67 v73 v71 1 fun h74 =>
j60 (s0.1, ()) h74 d2) (
pInt .eql v55 (.int .i64 (.ofNat 11)) fun v75 =>
pCond v75 (
pLeave d2 h56 fun h76 =>
some ((.int .i64 (.ofNat 1)), h76)) (
pCall c (.fn 156 [] []) [s0.1, v55] h56 fun _ h78 =>
j60 (s0.1, ()) h78 d2)))))) (
pNil s0.1 fun v79 =>
pFieldA v79 5 fun v80 =>
pLoad1 h1 v80 fun v81 =>
pLeave d2 h1 fun h82 =>
some (v81, h82))) (a0, ()) h []
theorem S130_eq (c : CV) (a0 : AV) (h : AH) : enterK Tryz.prog NN P130 c 130 [a0] h = S130 c a0 h := by kernel_rfl
def W130 (c : CV) (l : List AV) (h : AH) : R := match l with | [a0] => S130 c a0 h | _ => none
theorem W130_ok : WOk Tryz.prog 130 W130 := by
  intro c l h r e
  unfold W130 at e
  split at e
  · exact ⟨P130, by rw [S130_eq]; exact e⟩
  · cases e
/- (*quietus/interp.Interp).Err -/
def P131 : Pl := .z
def S131 (_ : CV) (a0 : AV) (h : AH) : R :=
pNil a0 fun v0 =>
pFieldA v0 4 fun v1 =>
pLoad1 h v1 fun v2 =>
some (v2, h)
theorem S131_eq (c : CV) (a0 : AV) (h : AH) : enterK Tryz.prog NN P131 c 131 [a0] h = S131 c a0 h := by kernel_rfl
def W131 (c : CV) (l : List AV) (h : AH) : R := match l with | [a0] => S131 c a0 h | _ => none
theorem W131_ok : WOk Tryz.prog 131 W131 := by
  intro c l h r e
  unfold W131 at e
  split at e
  · exact ⟨P131, by rw [S131_eq]; exact e⟩
  · cases e
/- quietus/arena.Give -/
def P132 : Pl := (.n none .z (.n none .z (.n (some [7, 5, 1, 0]) (.n none (.r [[19, 18, 7, 5, 1, 0]]) .z) .z)))
def S132 (c : CV) (a0 a1 : AV) (h : AH) : R :=
pCall c (.fn 158 [] []) [a0, a1] h fun v0 h1 =>
pExtract v0 0 fun v2 =>
pExtract v0 1 fun v3 =>
pExtract v0 2 fun v4 =>
joinC (α := AV × AV × AV × AV × Unit → AH → List Nat → R) (fun s5 h6 d7 =>
pInt .neq s5.1 (.int .i64 (.ofNat 0)) fun v9 =>
pCond v9 (
pLeave d7 h6 fun h10 =>
some (s5.1, h10)) (
pCall c (.fn 160 [] []) [s5.2.1] h6 fun v11 h12 =>
pCall c (.fn 159 [] []) [s5.2.2.2.1, v11] h12 fun v13 h14 =>
pExtract v13 0 fun v15 =>
pExtract v13 1 fun v16 =>
pInt .neq v16 (.int .i64 (.ofNat 0)) fun v17 =>
pCond v17 (
pLeave d7 h14 fun h18 =>
some (v16, h18)) (
pBuild [(.int .i64 (.ofNat 0)), (.int .u64 (.ofNat 0))] [(0, 1, s5.2.2.1), (1, 1, v15)] fun v19 =>
pCall c (.fn 160 [] []) [s5.2.1] h14 fun v20 h21 =>
pConvI .u64 s5.2.2.1 fun v22 =>
pBuild [(.int .i64 (.ofNat 0)), (.int .u64 (.ofNat 0))] [(0, 1, v20), (1, 1, v22)] fun v23 =>
pBuildS h21 158 [(.int .i64 (.ofNat 0)), (.int .u64 (.ofNat 0))] 2 [(0, 2, v19), (2, 2, v23)] fun v24 h25 =>
pCall c (.fn 161 [] []) [s5.2.2.2.1, v24] h25 fun v26 h27 =>
pLeave d7 h27 fun h28 =>
some (v26, h28)))) fun j8 =>
pInt .eql v4 (.int .i64 (.ofNat 0)) fun v29 =>
joinC (α := AV × AV × AV × AV × AV × AV × Unit → AH → R) (fun s30 h31 =>
pPick s30.2.1 s30.1 (.bool false) fun v33 =>
pCond v33 (
j8 ((.int .i64 (.ofNat 2)), s30.2.2.2.1, s30.2.2.2.2.1, s30.2.2.2.2.2.1, ()) h31 []) (
j8 (s30.2.2.1, s30.2.2.2.1, s30.2.2.2.2.1, s30.2.2.2.2.2.1, ()) h31 [])) fun j32 =>
pWant v29 true (
j32 (v3, v29, v4, v2, a1, a0, ()) h1) (
j32 (.undef, v29, v4, v2, a1, a0, ()) h1)
theorem S132_eq (c : CV) (a0 a1 : AV) (h : AH) : enterK Tryz.prog NN P132 c 132 [a0, a1] h = S132 c a0 a1 h := by kernel_rfl
def W132 (c : CV) (l : List AV) (h : AH) : R := match l with | [a0, a1] => S132 c a0 a1 h | _ => none
theorem W132_ok : WOk Tryz.prog 132 W132 := by
  intro c l h r e
  unfold W132 at e
  split at e
  · exact ⟨P132, by rw [S132_eq]; exact e⟩
  · cases e
/- quietus/fetch.New -/
def P133 : Pl := .z
def S133 (c : CV) (a0 a1 a2 a3 a4 : AV) (h : AH) : R :=
pCall c (.fn 137 [] []) [a0, a3] h fun v0 h1 =>
pBuild [(.int .i64 (.ofNat 0)), (.int .i64 (.ofNat 0)), (.int .i64 (.ofNat 0)), (.int .i64 (.ofNat 0)), (.int .i64 (.ofNat 0)), (.int .i64 (.ofNat 0)), (.int .i64 (.ofNat 0)), (.int .u64 (.ofNat 0)), (.int .i64 (.ofNat 0)), (.int .u64 (.ofNat 0)), (.bool false), (.int .i64 (.ofNat 0)), (.int .u64 (.ofNat 0))] [(0, 5, v0), (5, 1, a1), (6, 1, a2), (7, 1, a4)] fun v2 =>
pBox h1 220 v2 fun v3 h4 =>
some (v3, h4)
theorem S133_eq (c : CV) (a0 a1 a2 a3 a4 : AV) (h : AH) : enterK Tryz.prog NN P133 c 133 [a0, a1, a2, a3, a4] h = S133 c a0 a1 a2 a3 a4 h := by kernel_rfl
def W133 (c : CV) (l : List AV) (h : AH) : R := match l with | [a0, a1, a2, a3, a4] => S133 c a0 a1 a2 a3 a4 h | _ => none
theorem W133_ok : WOk Tryz.prog 133 W133 := by
  intro c l h r e
  unfold W133 at e
  split at e
  · exact ⟨P133, by rw [S133_eq]; exact e⟩
  · cases e
/- quietus/stripe.Of -/
def P134 : Pl := .z
def S134 (c : CV) (a0 a1 a2 : AV) (h : AH) : R :=
pInt .lss a0 (.int .i64 (.ofNat 0)) fun v0 =>
pCond v0 (
some ((.int .i64 (.negSucc 0)), h)) (
pCall c (.fn 66 [] []) [a2, (.int .i64 (.ofNat 16))] h fun v1 h2 =>
pInt .quo a0 v1 fun v3 =>
pCall c (.fn 66 [] []) [a1, (.int .i64 (.ofNat 16))] h2 fun v4 h5 =>
pInt .rem v3 v4 fun v6 =>
some (v6, h5))
theorem S134_eq (c : CV) (a0 a1 a2 : AV) (h : AH) : enterK Tryz.prog NN P134 c 134 [a0, a1, a2] h = S134 c a0 a1 a2 h := by kernel_rfl
def W134 (c : CV) (l : List AV) (h : AH) : R := match l with | [a0, a1, a2] => S134 c a0 a1 a2 h | _ => none
theorem W134_ok : WOk Tryz.prog 134 W134 := by
  intro c l h r e
  unfold W134 at e
  split at e
  · exact ⟨P134, by rw [S134_eq]; exact e⟩
  · cases e
/- quietus/extend.New -/
def P135 : Pl := .z
def S135 (c : CV) (a0 a1 a2 : AV) (h : AH) : R :=
pCall c (.fn 137 [] []) [a0, a1] h fun v0 h1 =>
pCall c (.fn 121 [] []) [a2] h1 fun v2 h3 =>
pBuild [(.int .i64 (.ofNat 0)), (.int .i64 (.ofNat 0)), (.int .i64 (.ofNat 0)), (.int .i64 (.ofNat 0)), (.int .i64 (.ofNat 0)), .nils, (.bool false), (.int .i64 (.ofNat 0)), (.int .u64 (.ofNat 0))] [(0, 5, v0), (5, 1, v2)] fun v4 =>
pBox h3 222 v4 fun v5 h6 =>
some (v5, h6)
theorem S135_eq (c : CV) (a0 a1 a2 : AV) (h : AH) : enterK Tryz.prog NN P135 c 135 [a0, a1, a2] h = S135 c a0 a1 a2 h := by kernel_rfl
def W135 (c : CV) (l : List AV) (h : AH) : R := match l with | [a0, a1, a2] => S135 c a0 a1 a2 h | _ => none
theorem W135_ok : WOk Tryz.prog 135 W135 := by
  intro c l h r e
  unfold W135 at e
  split at e
  · exact ⟨P135, by rw [S135_eq]; exact e⟩
  · cases e
/- (*quietus/levels.Levels).Cells -/
def P136 : Pl := (.n none .z (.n none .z (.n none (.n none .z (.n none (.n (some [3]) .z .z) .z)) .z)))
def S136 (c : CV) (a0 : AV) (h : AH) : R :=
pBox h 108 .nils fun v0 h1 =>
pNil a0 fun v2 =>
pFieldA v2 1 fun v3 =>
pLoad1 h1 v3 fun v4 =>
pCall c (.fn 162 [] []) [v4] h1 fun v5 h6 =>
pCallF c v5 [.yield (h6.new .dfd).nx] ((h6.new .dfd).new (.loop .ready none 136 [1, 1, 0, 1, 0] [3] [v0] h6.nx)) fun _ h7 =>
pEndLoop h7 (h6.new .dfd).nx fun p9 h8 =>
pNone p9 (
pLoad1 h8 v0 fun v10 =>
pLeave (h6.nx :: []) h8 fun h11 =>
some (v10, h11)) <|
none
theorem S136_eq (c : CV) (a0 : AV) (h : AH) : enterK Tryz.prog NN P136 c 136 [a0] h = S136 c a0 h := by kernel_rfl
def W136 (c : CV) (l : List AV) (h : AH) : R := match l with | [a0] => S136 c a0 h | _ => none
theorem W136_ok : WOk Tryz.prog 136 W136 := by
  intro c l h r e
  unfold W136 at e
  split at e
  · exact ⟨P136, by rw [S136_eq]; exact e⟩
  · cases e
/- quietus/patience.New -/
def P137 : Pl := .z
def S137 (_ : CV) (a0 a1 : AV) (h : AH) : R :=
pBox h 177 (.agg [(.int .i64 (.ofNat 0)), (.int .i64 (.ofNat 0)), (.int .i64 (.ofNat 0)), (.int .i64 (.ofNat 0)), (.int .i64 (.ofNat 0))]) fun v0 h1 =>
pMM false [a1, (.int .i64 (.ofNat 4))] fun v2 =>
pMM true [(.int .i64 (.ofNat 0)), v2] fun v3 =>
pBuild [(.int .i64 (.ofNat 0)), (.int .i64 (.ofNat 0)), (.int .i64 (.ofNat 0)), (.int .i64 (.ofNat 0)), (.int .i64 (.ofNat 0))] [(0, 1, a0), (1, 1, v3), (3, 1, (.int .i64 (.negSucc 0)))] fun v4 =>
pStore h1 v0 v4 5 fun h5 =>
pLoadN h5 v0 5 fun v6 =>
some (v6, h5)
theorem S137_eq (c : CV) (a0 a1 : AV) (h : AH) : enterK Tryz.prog NN P137 c 137 [a0, a1] h = S137 c a0 a1 h := by kernel_rfl
def W137 (c : CV) (l : List AV) (h : AH) : R := match l with | [a0, a1] => S137 c a0 a1 h | _ => none
theorem W137_ok : WOk Tryz.prog 137 W137 := by
  intro c l h r e
  unfold W137 at e
  split at e
  · exact ⟨P137, by rw [S137_eq]; exact e⟩
  · cases e
/- quietus/writes.Stripes -/
def P138 : Pl := (.n none .z (.n none .z (.n none (.n none .z (.n none (.n (some [13, 12, 11, 7, 2, 1]) (.n none .z (.n none .z (.n none (.n (some [13, 12, 11, 7, 2, 1]) .z .z) .z))) .z) .z)) .z)))
def S138 (c : CV) (a0 a1 a2 : AV) (h : AH) : R :=
pLenS a0 fun v0 =>
loopC (σ := AV × AV × AV × AV × AV × AV × Unit) NN (fun i4 s1 h2 d3 =>
pInt .lss s1.1 s1.2.1 fun v5 =>
pCond v5 (
joinC (α := AV × AV × AV × AV × AV × AV × Unit → AH → List Nat → R) (fun s6 h7 d8 =>
pInt .add s6.1 (.int .i64 (.ofNat 1)) fun v10 =>
i4 (v10, s6.2.1, s6.2.2.1, s6.2.2.2.1, s6.2.2.2.2.1, s6.2.2.2.2.2.1, ()) h7 d8) fun j9 =>
pIdxS s1.2.2.1 s1.1 2 fun v11 =>
pLoadN h2 v11 2 fun v12 =>
pBox h2 158 (.agg [(.int .i64 (.ofNat 0)), (.int .u64 (.ofNat 0))]) fun v13 h14 =>
pStore h14 v13 v12 2 fun h15 =>
pFieldA v13 0 fun v16 =>
pLoad1 h15 v16 fun v17 =>
pCall c (.fn 134 [] []) [v17, s1.2.2.2.2.2.1, s1.2.2.2.2.1] h15 fun v18 h19 =>
pInt .geq v18 (.int .i64 (.ofNat 0)) fun v20 =>
pCond v20 (
pBuildS h19 3 [(.int .i64 (.ofNat 0))] 1 [(0, 1, v18)] fun v21 h22 =>
pAppend h22 3 1 s1.2.2.2.1 v21 fun v23 h24 =>
j9 (s1.1, s1.2.1, s1.2.2.1, v23, s1.2.2.2.2.1, s1.2.2.2.2.2.1, ()) h24 d3) (
j9 (s1.1, s1.2.1, s1.2.2.1, s1.2.2.2.1, s1.2.2.2.2.1, s1.2.2.2.2.2.1, ()) h19 d3)) (
pCall c (.fn 166 [] []) [s1.2.2.2.1] h2 fun _ h26 =>
pCall c (.fn 167 [] []) [s1.2.2.2.1] h26 fun v27 h28 =>
pLeave d3 h28 fun h29 =>
some (v27, h29))) ((.int .i64 (.ofNat 0)), v0, a0, .nils, a2, a1, ()) h []
theorem S138_eq (c : CV) (a0 a1 a2 : AV) (h : AH) : enterK Tryz.prog NN P138 c 138 [a0, a1, a2] h = S138 c a0 a1 a2 h := by kernel_rfl
def W138 (c : CV) (l : List AV) (h : AH) : R := match l with | [a0, a1, a2] => S138 c a0 a1 a2 h | _ => none
theorem W138_ok : WOk Tryz.prog 138 W138 := by
  intro c l h r e
  unfold W138 at e
  split at e
  · exact ⟨P138, by rw [S138_eq]; exact e⟩
  · cases e
/- (*quietus/commit.Commit).more -/
def P139 : Pl := .z
def S139 (_ : CV) (a0 : AV) (h : AH) : R :=
pNil a0 fun v0 =>
pFieldA v0 11 fun v1 =>
pStore h v1 (.int .i64 (.ofNat 0)) 1 fun h2 =>
pNil a0 fun v3 =>
pFieldA v3 10 fun v4 =>
pLoad1 h2 v4 fun v5 =>
pLenS v5 fun v6 =>
pNil a0 fun v7 =>
pFieldA v7 9 fun v8 =>
pLoad1 h2 v8 fun v9 =>
pLenS v9 fun v10 =>
pInt .eql v6 v10 fun v11 =>
pCond v11 (
pNil a0 fun v12 =>
pFieldA v12 11 fun v13 =>
pStore h2 v13 (.int .i64 (.ofNat 2)) 1 fun h14 =>
some ((.tup []), h14)) (
some ((.tup []), h2))
theorem S139_eq (c : CV) (a0 : AV) (h : AH) : enterK Tryz.prog NN P139 c 139 [a0] h = S139 c a0 h := by kernel_rfl
def W139 (c : CV) (l : List AV) (h : AH) : R := match l with | [a0] => S139 c a0 h | _ => none
theorem W139_ok : WOk Tryz.prog 139 W139 := by
  intro c l h r e
  unfold W139 at e
  split at e
  · exact ⟨P139, by rw [S139_eq]; exact e⟩
  · cases e
/- (*quietus/attempt.Attempt).fetched -/
def P140 : Pl := (.n none .z (.n none (.r [[2, 0]]) (.n none .z (.n (some []) (.n none .z (.n none (.n none (.r [[0]]) .z) .z)) .z))))
def S140 (c : CV) (a0 : AV) (h : AH) : R :=
pNil a0 fun v0 =>
pFieldA v0 16 fun v1 =>
pLoad1 h v1 fun v2 =>
pCall c (.fn 168 [] []) [v2] h fun v3 h4 =>
pInt .eql v3 (.int .i64 (.ofNat 6)) fun v5 =>
pCond v5 (
pCall c (.fn 109 [] []) [a0, (.int .i64 (.ofNat 4))] h4 fun _ h7 =>
some ((.tup []), h7)) (
joinC (α := AV × AV × Unit → AH → R) (fun s8 h9 =>
joinC (α := Unit → AH → List Nat → R) (fun _ h12 d13 =>
pLeave d13 h12 fun h15 =>
some ((.tup []), h15)) fun j14 =>
pInt .eql s8.1 (.int .i64 (.ofNat 0)) fun v16 =>
pCond v16 (
joinC (α := AV × Unit → AH → R) (fun s17 h18 =>
pCall c (.fn 78 [] []) [s17.1] h18 fun _ h21 =>
j14 (()) h21 []) fun j19 =>
pNil s8.2.1 fun v22 =>
pFieldA v22 12 fun v23 =>
pLoad1 h9 v23 fun v24 =>
pNil s8.2.1 fun v25 =>
pFieldA v25 12 fun v26 =>
pLoad1 h9 v26 fun v27 =>
pCall c (.fn 108 [] []) [v27] h9 fun v28 h29 =>
pNil s8.2.1 fun v30 =>
pFieldA v30 16 fun v31 =>
pLoad1 h29 v31 fun v32 =>
pCall c (.fn 172 [] []) [v32] h29 fun v33 h34 =>
pCall c (.fn 171 [] []) [v24, v28, v33] h34 fun _ h36 =>
pChk v31 none v32 h9 h29 h9.nx <|
pChk v23 none v24 h29 h34 h9.nx <|
pChk v23 none v24 h9 h29 h9.nx <|
j19 (s8.2.1, ()) h36) (
pInt .eql s8.1 (.int .i64 (.ofNat 14)) fun v37 =>
pCond v37 (
pCall c (.fn 77 [] []) [s8.2.1, (.int .i64 (.ofNat 5)), (.int .i64 (.ofNat 0)), (.int .i64 (.negSucc 0))] h9 fun _ h39 =>
j14 (()) h39 []) (
pCall c (.fn 77 [] []) [s8.2.1, (.int .i64 (.ofNat 4)), s8.1, (.int .i64 (.negSucc 0))] h9 fun _ h41 =>
j14 (()) h41 []))) fun j10 =>
pNil a0 fun v42 =>
pFieldA v42 13 fun v43 =>
pLoad1 h4 v43 fun v44 =>
pNil a0 fun v45 =>
pFieldA v45 16 fun v46 =>
pLoad1 h4 v46 fun v47 =>
pCall c (.fn 170 [] []) [v47] h4 fun v48 h49 =>
pCall c (.fn 169 [] []) [v44, v48] h49 fun v50 h51 =>
pChk v43 none v44 h4 h49 h4.nx <|
j10 (v50, a0, ()) h51)
theorem S140_eq (c : CV) (a0 : AV) (h : AH) : enterK Tryz.prog NN P140 c 140 [a0] h = S140 c a0 h := by kernel_rfl
def W140 (c : CV) (l : List AV) (h : AH) : R := match l with | [a0] => S140 c a0 h | _ => none
theorem W140_ok : WOk Tryz.prog 140 W140 := by
  intro c l h r e
  unfold W140 at e
  split at e
  · exact ⟨P140, by rw [S140_eq]; exact e⟩
  · cases e
/- (*quietus/extend.Extend).Stamp -/
def P141 : Pl := .z
def S141 (c : CV) (a0 : AV) (h : AH) : R :=
pCall c (.fn 173 [] []) [a0] h fun v0 h1 =>
pInt .neq v0 (.int .i64 (.ofNat 2)) fun v2 =>
pCond v2 (
some ((.int .u64 (.ofNat 0)), h1)) (
pNil a0 fun v3 =>
pFieldA v3 8 fun v4 =>
pLoad1 h1 v4 fun v5 =>
some (v5, h1))
theorem S141_eq (c : CV) (a0 : AV) (h : AH) : enterK Tryz.prog NN P141 c 141 [a0] h = S141 c a0 h := by kernel_rfl
def W141 (c : CV) (l : List AV) (h : AH) : R := match l with | [a0] => S141 c a0 h | _ => none
theorem W141_ok : WOk Tryz.prog 141 W141 := by
  intro c l h r e
  unfold W141 at e
  split at e
  · exact ⟨P141, by rw [S141_eq]; exact e⟩
  · cases e
/- (*quietus/commit.Commit).Err -/
def P142 : Pl := .z
def S142 (c : CV) (a0 : AV) (h : AH) : R :=
pNil a0 fun v0 =>
pFieldA v0 0 fun v1 =>
pCall c (.fn 174 [] []) [v1] h fun v2 h3 =>
some (v2, h3)
theorem S142_eq (c : CV) (a0 : AV) (h : AH) : enterK Tryz.prog NN P142 c 142 [a0] h = S142 c a0 h := by kernel_rfl
def W142 (c : CV) (l : List AV) (h : AH) : R := match l with | [a0] => S142 c a0 h | _ => none
theorem W142_ok : WOk Tryz.prog 142 W142 := by
  intro c l h r e
  unfold W142 at e
  split at e
  · exact ⟨P142, by rw [S142_eq]; exact e⟩
  · cases e
/- (*quietus/slate.Slate).Copy -/
def P143 : Pl := .z
def S143 (c : CV) (a0 : AV) (h : AH) : R :=
pNil a0 fun v0 =>
pFieldA v0 0 fun v1 =>
pLoad1 h v1 fun v2 =>
pCall c (.fn 175 [] []) [v2] h fun v3 h4 =>
pBuild [.nils] [(0, 1, v3)] fun v5 =>
pBox h4 202 v5 fun v6 h7 =>
some (v6, h7)
theorem S143_eq (c : CV) (a0 : AV) (h : AH) : enterK Tryz.prog NN P143 c 143 [a0] h = S143 c a0 h := by kernel_rfl
def W143 (c : CV) (l : List AV) (h : AH) : R := match l with | [a0] => S143 c a0 h | _ => none
theorem W143_ok : WOk Tryz.prog 143 W143 := by
  intro c l h r e
  unfold W143 at e
  split at e
  · exact ⟨P143, by rw [S143_eq]; exact e⟩
  · cases e
/- quietus/slate.word -/
def P144 : Pl := .z
def S144 (c : CV) (a0 : AV) (h : AH) : R :=
pAssertOk 22 (.int .u64 (.ofNat 0)) a0 fun v0 =>
pExtract v0 1 fun v1 =>
pExtract v0 0 fun v2 =>
pCond v1 (
pCall c (.fn 176 [] []) [v2, (.int .i64 (.ofNat 10))] h fun v3 h4 =>
some (v3, h4)) (
pAssertOk 4 (.bool false) a0 fun v5 =>
pExtract v5 1 fun v6 =>
pExtract v5 0 fun v7 =>
pCond v6 (
pCond v7 (
some ((.str [121, 101, 115]), h)) (
some ((.str [110, 111]), h))) (
some ((.str [110, 111, 110, 101]), h)))
theorem S144_eq (c : CV) (a0 : AV) (h : AH) : enterK Tryz.prog NN P144 c 144 [a0] h = S144 c a0 h := by kernel_rfl
def W144 (c : CV) (l : List AV) (h : AH) : R := match l with | [a0] => S144 c a0 h | _ => none
theorem W144_ok : WOk Tryz.prog 144 W144 := by
  intro c l h r e
  unfold W144 at e
  split at e
  · exact ⟨P144, by rw [S144_eq]; exact e⟩
  · cases e
/- strings.Join -/
def P145 : Pl := (.n none .z (.n none .z (.n none .z (.n (some [5, 1, 0]) (.n none .z (.n none (.n (some [5, 1, 0]) .z .z) .z)) (.n none (.n none .z (.n none (.n (some [41, 40, 39, 5, 1, 0]) (.n none .z (.n none .z (.n none (.n none (.n none .z (.n (some [41, 40, 39, 7, 5, 1, 0]) .z .z)) .z) .z))) .z) .z)) (.n none .z (.n none .z (.n none .z (.n none (.n none .z (.n none (.n (some [65, 64, 63, 8, 1]) .z .z) .z)) .z)))))))))
def S145 (c : CV) (a0 a1 : AV) (h : AH) : R :=
pLenS a0 fun v0 =>
pInt .eql v0 (.int .i64 (.ofNat 0)) fun v1 =>
pCond v1 (
some ((.str []), h)) (
pInt .eql v0 (.int .i64 (.ofNat 1)) fun v2 =>
pCond v2 (
pIdxS a0 (.int .i64 (.ofNat 0)) 1 fun v3 =>
pLoad1 h v3 fun v4 =>
some (v4, h)) (
joinC (α := AV × AV × AV × Unit → AH → List Nat → R) (fun s5 h6 d7 =>
pLenS s5.2.2.1 fun v9 =>
loopC (σ := AV × AV × AV × AV × AV × AV × Unit) NN (fun i13 s10 h11 d12 =>
pInt .lss s10.1 s10.2.1 fun v14 =>
pCond v14 (
pIdxS s10.2.2.1 s10.1 1 fun v15 =>
pLoad1 h11 v15 fun v16 =>
joinC (α := AV × AV × AV × AV × AV × AV × AV × Unit → AH → List Nat → R) (fun s17 h18 d19 =>
pLenStr s17.2.2.2.1 fun v21 =>
pInt .add s17.2.2.2.2.1 v21 fun v22 =>
pInt .add s17.1 (.int .i64 (.ofNat 1)) fun v23 =>
i13 (v23, s17.2.1, s17.2.2.1, v22, s17.2.2.2.2.2.1, s17.2.2.2.2.2.2.1, ()) h18 d19) fun j20 =>
pLenStr v16 fun v24 =>
pInt .sub (.int .i64 (.ofNat 9223372036854775807)) s10.2.2.2.1 fun v25 =>
pInt .gtr v24 v25 fun v26 =>
pCond v26 (
none /- op -/) (
j20 (s10.1, s10.2.1, s10.2.2.1, v16, s10.2.2.2.1, s10.2.2.2.2.1, s10.2.2.2.2.2.1, ()) h11 d12)) (
pBox h11 242 (.agg [.nilp, .nils]) fun v27 h28 =>
pCall c (.fn 177 [] []) [v27, s10.2.2.2.1] h28 fun _ h30 =>
pIdxS s10.2.2.2.2.2.1 (.int .i64 (.ofNat 0)) 1 fun v31 =>
pLoad1 h30 v31 fun v32 =>
pCall c (.fn 178 [] []) [v27, v32] h30 fun _ h34 =>
pSlice h34 9 1 s10.2.2.2.2.2.1 (some (.int .i64 (.ofNat 1))) none fun v35 =>
pLenS v35 fun v36 =>
loopC (σ := AV × AV × AV × AV × AV × Unit) NN (fun i40 s37 h38 d39 =>
pInt .lss s37.1 s37.2.1 fun v41 =>
pCond v41 (
pIdxS s37.2.2.1 s37.1 1 fun v42 =>
pLoad1 h38 v42 fun v43 =>
pCall c (.fn 178 [] []) [s37.2.2.2.1, s37.2.2.2.2.1] h38 fun _ h45 =>
pCall c (.fn 178 [] []) [s37.2.2.2.1, v43] h45 fun _ h47 =>
pInt .add s37.1 (.int .i64 (.ofNat 1)) fun v48 =>
i40 (v48, s37.2.1, s37.2.2.1, s37.2.2.2.1, s37.2.2.2.2.1, ()) h47 d39) (
pCall c (.fn 179 [] []) [s37.2.2.2.1] h38 fun v49 h50 =>
pLeave d39 h50 fun h51 =>
some (v49, h51))) ((.int .i64 (.ofNat 0)), v36, v35, v27, s10.2.2.2.2.1, ()) h34 d12)) ((.int .i64 (.ofNat 0)), v9, s5.2.2.1, s5.1, s5.2.1, s5.2.2.1, ()) h6 d7) fun j8 =>
pLenStr a1 fun v52 =>
pInt .gtr v52 (.int .i64 (.ofNat 0)) fun v53 =>
pCond v53 (
joinC (α := AV × AV × AV × Unit → AH → List Nat → R) (fun s54 h55 d56 =>
pLenStr s54.2.1 fun v58 =>
pLenS s54.2.2.1 fun v59 =>
pInt .sub v59 (.int .i64 (.ofNat 1)) fun v60 =>
pInt .mul v58 v60 fun v61 =>
pInt .add s54.1 v61 fun v62 =>
j8 (v62, s54.2.1, s54.2.2.1, ()) h55 d56) fun j57 =>
pLenStr a1 fun v63 =>
pLenS a0 fun v64 =>
pInt .sub v64 (.int .i64 (.ofNat 1)) fun v65 =>
pInt .quo (.int .i64 (.ofNat 9223372036854775807)) v65 fun v66 =>
pInt .geq v63 v66 fun v67 =>
pCond v67 (
none /- op -/) (
j57 ((.int .i64 (.ofNat 0)), a1, a0, ()) h [])) (
j8 ((.int .i64 (.ofNat 0)), a1, a0, ()) h [])))
theorem S145_eq (c : CV) (a0 a1 : AV) (h : AH) : enterK Tryz.prog NN P145 c 145 [a0, a1] h = S145 c a0 a1 h := by kernel_rfl
def W145 (c : CV) (l : List AV) (h : AH) : R := match l with | [a0, a1] => S145 c a0 a1 h | _ => none
theorem W145_ok : WOk Tryz.prog 145 W145 := by
  intro c l h r e
  unfold W145 at e
  split at e
  · exact ⟨P145, by rw [S145_eq]; exact e⟩
  · cases e
/- (*quietus/levels.Levels).Frees -/
def P146 : Pl := (.n none .z (.n none .z (.n none (.n none .z (.n none (.n (some [11, 10, 9, 3]) .z .z) .z)) .z)))
def S146 (_ : CV) (a0 : AV) (h : AH) : R :=
pNil a0 fun v0 =>
pFieldA v0 1 fun v1 =>
pLoad1 h v1 fun v2 =>
pLenS v2 fun v3 =>
loopC (σ := AV × AV × AV × AV × Unit) NN (fun i7 s4 h5 d6 =>
pInt .lss s4.1 s4.2.1 fun v8 =>
pCond v8 (
pIdxS s4.2.2.1 s4.1 1 fun v9 =>
pLoad1 h5 v9 fun v10 =>
pNil v10 fun v11 =>
pFieldA v11 1 fun v12 =>
pLoad1 h5 v12 fun v13 =>
pAppend h5 3 1 s4.2.2.2.1 v13 fun v14 h15 =>
pInt .add s4.1 (.int .i64 (.ofNat 1)) fun v16 =>
i7 (v16, s4.2.1, s4.2.2.1, v14, ()) h15 d6) (
pLeave d6 h5 fun h17 =>
some (s4.2.2.2.1, h17))) ((.int .i64 (.ofNat 0)), v3, v2, .nils, ()) h []
theorem S146_eq (c : CV) (a0 : AV) (h : AH) : enterK Tryz.prog NN P146 c 146 [a0] h = S146 c a0 h := by kernel_rfl
def W146 (c : CV) (l : List AV) (h : AH) : R := match l with | [a0] => S146 c a0 h | _ => none
theorem W146_ok : WOk Tryz.prog 146 W146 := by
  intro c l h r e
  unfold W146 at e
  split at e
  · exact ⟨P146, by rw [S146_eq]; exact e⟩
  · cases e
/- quietus/epoch.Passed -/
def P147 : Pl := (.n none .z (.n none (.n none .z (.n none (.n (some [9, 8, 7, 1]) (.n none .z (.n none .z (.n none (.n none (.n none .z (.n none (.r [[18, 15, 9, 8, 7, 1]]) .z)) .z) .z))) .z) .z)) .z))
def S147 (_ : CV) (a0 a1 : AV) (h : AH) : R :=
pLenS a0 fun v0 =>
loopC (σ := AV × AV × AV × AV × Unit) NN (fun i4 s1 h2 d3 =>
pInt .lss s1.1 s1.2.1 fun v5 =>
pCond v5 (
pIdxS s1.2.2.1 s1.1 1 fun v6 =>
pLoad1 h2 v6 fun v7 =>
pInt .neq v7 (.int .u64 (.ofNat 0)) fun v8 =>
joinC (α := AV × AV × AV × AV × AV × AV × Unit → AH → R) (fun s9 h10 =>
pPick s9.2.1 s9.1 (.bool false) fun v12 =>
pCond v12 (
pLeave d3 h10 fun h13 =>
some ((.bool false), h13)) (
pInt .add s9.2.2.1 (.int .i64 (.ofNat 1)) fun v14 =>
i4 (v14, s9.2.2.2.1, s9.2.2.2.2.1, s9.2.2.2.2.2.1, ()) h10 d3)) fun j11 =>
pWant v8 true (
pInt .leq v7 s1.2.2.2.1 fun v15 =>
j11 (v15, v8, s1.1, s1.2.1, s1.2.2.1, s1.2.2.2.1, ()) h2) (
j11 (.undef, v8, s1.1, s1.2.1, s1.2.2.1, s1.2.2.2.1, ()) h2)) (
pLeave d3 h2 fun h16 =>
some ((.bool true), h16))) ((.int .i64 (.ofNat 0)), v0, a0, a1, ()) h []
theorem S147_eq (c : CV) (a0 a1 : AV) (h : AH) : enterK Tryz.prog NN P147 c 147 [a0, a1] h = S147 c a0 a1 h := by kernel_rfl
def W147 (c : CV) (l : List AV) (h : AH) : R := match l with | [a0, a1] => S147 c a0 a1 h | _ => none
theorem W147_ok : WOk Tryz.prog 147 W147 := by
  intro c l h r e
  unfold W147 at e
  split at e
  · exact ⟨P147, by rw [S147_eq]; exact e⟩
  · cases e
/- quietus/lock.owns -/
def P148 : Pl := (.n none .z (.n none (.r [[7, 5]]) .z))
def S148 (_ : CV) (a0 : AV) (h : AH) : R :=
pInt .geq a0 (.int .i64 (.ofNat 0)) fun v0 =>
joinC (α := AV × AV × Unit → AH → R) (fun s1 h2 =>
pPick s1.2.1 s1.1 (.bool false) fun v4 =>
some (v4, h2)) fun j3 =>
pWant v0 true (
pInt .lss a0 (.int .i64 (.ofNat 4)) fun v5 =>
j3 (v5, v0, ()) h) (
j3 (.undef, v0, ()) h)
theorem S148_eq (c : CV) (a0 : AV) (h : AH) : enterK Tryz.prog NN P148 c 148 [a0] h = S148 c a0 h := by kernel_rfl
def W148 (c : CV) (l : List AV) (h : AH) : R := match l with | [a0] => S148 c a0 h | _ => none
theorem W148_ok : WOk Tryz.prog 148 W148 := by
  intro c l h r e
  unfold W148 at e
  split at e
  · exact ⟨P148, by rw [S148_eq]; exact e⟩
  · cases e
/- quietus/levels.New -/
def P149 : Pl := .z
def S149 (c : CV) (a0 : AV) (h : AH) : R :=
pMM false [a0, (.int .i64 (.ofNat 96))] fun v0 =>
pMM true [(.int .i64 (.ofNat 0)), v0] fun v1 =>
pCall c (.fn 180 [] []) [] h fun v2 h3 =>
pBuildS h3 227 [.nilp] 1 [(0, 1, v2)] fun v4 h5 =>
pBuild [(.int .i64 (.ofNat 0)), .nils] [(0, 1, v1), (1, 1, v4)] fun v6 =>
pBox h5 229 v6 fun v7 h8 =>
some (v7, h8)
theorem S149_eq (c : CV) (a0 : AV) (h : AH) : enterK Tryz.prog NN P149 c 149 [a0] h = S149 c a0 h := by kernel_rfl
def W149 (c : CV) (l : List AV) (h : AH) : R := match l with | [a0] => S149 c a0 h | _ => none
theorem W149_ok : WOk Tryz.prog 149 W149 := by
  intro c l h r e
  unfold W149 at e
  split at e
  · exact ⟨P149, by rw [S149_eq]; exact e⟩
  · cases e
/- quietus/check.wrong -/
def P150 : Pl := (.n none .z (.n none (.n none (.n none .z (.n none .z (.n none (.r [[11, 5, 3, 1]]) (.n none .z (.n none (.r [[33, 29, 5, 1]]) (.n none .z (.n none (.r [[42, 39]]) .z))))))) .z) .z))
def S150 (c : CV) (a0 a1 a2 : AV) (h : AH) : R :=
pBox h 31 a0 fun v0 h1 =>
pBox h1 28 a2 fun v2 h3 =>
pLoadN h3 v2 5 fun v4 =>
pCall c (.fn 181 [] []) [v4] h3 fun v5 h6 =>
pUn .not v5 fun v7 =>
pCond v7 (
some ((.int .i64 (.ofNat 8)), h6)) (
joinC (α := AV × AV × AV × AV × Unit → AH → R) (fun s8 h9 =>
pCond s8.1 (
some ((.int .i64 (.ofNat 12)), h9)) (
pFieldA s8.2.1 0 fun v11 =>
pLoad1 h9 v11 fun v12 =>
pInt .eql v12 (.int .i64 (.ofNat 16)) fun v13 =>
joinC (α := AV × AV × AV × AV × Unit → AH → R) (fun s14 h15 =>
pPick s14.2.1 s14.1 (.bool false) fun v17 =>
pCond v17 (
some ((.int .i64 (.ofNat 12)), h15)) (
pFieldA s14.2.2.1 0 fun v18 =>
pLoad1 h15 v18 fun v19 =>
pCall c (.fn 183 [] []) [v19] h15 fun v20 h21 =>
joinC (α := AV × AV × Unit → AH → R) (fun s22 h23 =>
pPick s22.2.1 s22.1 (.bool false) fun v25 =>
pCond v25 (
some ((.int .i64 (.ofNat 9)), h23)) (
some ((.int .i64 (.ofNat 0)), h23))) fun j24 =>
pWant v20 true (
pLenS s14.2.2.2.1 fun v26 =>
pInt .geq v26 (.int .i64 (.ofNat 5)) fun v27 =>
j24 (v27, v20, ()) h21) (
j24 (.undef, v20, ()) h21))) fun j16 =>
pWant v13 true (
pLoadN h9 s8.2.2.1 1 fun v28 =>
pCall c (.fn 182 [] []) [s8.2.2.2.1, v28] h9 fun v29 h30 =>
pInt .neq v29 (.int .i64 (.ofNat 14)) fun v31 =>
j16 (v31, v13, s8.2.1, s8.2.2.2.1, ()) h30) (
j16 (.undef, v13, s8.2.1, s8.2.2.2.1, ()) h9))) fun j10 =>
pFieldA v2 0 fun v32 =>
pLoad1 h6 v32 fun v33 =>
pCall c (.fn 155 [] []) [v33] h6 fun v34 h35 =>
pInt .gtr v34 (.int .i64 (.ofNat 0)) fun v36 =>
pWant v36 true (
pLoadN h35 v0 1 fun v37 =>
pCall c (.fn 182 [] []) [a1, v37] h35 fun v38 h39 =>
pFieldA v2 0 fun v40 =>
pLoad1 h39 v40 fun v41 =>
pCall c (.fn 155 [] []) [v41] h39 fun v42 h43 =>
pInt .neq v38 v42 fun v44 =>
pPick v36 v44 (.bool false) fun v45 =>
pChk v40 none v41 h35 h39 h6.nx <|
j10 (v45, v2, v0, a1, ()) h43) (
pPick v36 .undef (.bool false) fun v46 =>
j10 (v46, v2, v0, a1, ()) h35))
theorem S150_eq (c : CV) (a0 a1 a2 : AV) (h : AH) : enterK Tryz.prog NN P150 c 150 [a0, a1, a2] h = S150 c a0 a1 a2 h := by kernel_rfl
def W150 (c : CV) (l : List AV) (h : AH) : R := match l with | [a0, a1, a2] => S150 c a0 a1 a2 h | _ => none
theorem W150_ok : WOk Tryz.prog 150 W150 := by
  intro c l h r e
  unfold W150 at e
  split at e
  · exact ⟨P150, by rw [S150_eq]; exact e⟩
  · cases e
/- (quietus/check.stack).behind -/
def P151 : Pl := (.n none .z (.n (some [2, 1, 0]) .z (.n (some [0]) (.n none (.r [[19, 17, 1, 0]]) .z) .z)))
def S151 (c : CV) (a0 a1 a2 : AV) (h : AH) : R :=
joinC (α := AV × AV × AV × Unit → AH → List Nat → R) (fun s0 h1 d2 =>
joinC (α := AV × Unit → AH → List Nat → R) (fun s4 h5 d6 =>
pLeave d6 h5 fun h8 =>
some (s4.1, h8)) fun j7 =>
pCall c (.fn 183 [] []) [s0.1] h1 fun v9 h10 =>
joinC (α := AV × AV × AV × AV × Unit → AH → R) (fun s11 h12 =>
pPick s11.2.1 (.bool true) s11.1 fun v14 =>
pCond v14 (
pBuildS h12 3 [(.int .i64 (.ofNat 0))] 1 [(0, 1, s11.2.2.1)] fun v15 h16 =>
pAppend h16 3 1 s11.2.2.2.1 v15 fun v17 h18 =>
j7 (v17, ()) h18 d2) (
j7 (s11.2.2.2.1, ()) h12 d2)) fun j13 =>
pWant v9 false (
pInt .eql s0.1 (.int .i64 (.ofNat 18)) fun v19 =>
j13 (v19, v9, s0.2.1, s0.2.2.1, ()) h10) (
j13 (.undef, v9, s0.2.1, s0.2.2.1, ()) h10)) fun j3 =>
pCall c (.fn 155 [] []) [a2] h fun v20 h21 =>
pInt .gtr v20 (.int .i64 (.ofNat 0)) fun v22 =>
pCond v22 (
pLenS a0 fun v23 =>
pInt .sub v23 (.int .i64 (.ofNat 1)) fun v24 =>
pSlice h21 3 1 a0 none (some v24) fun v25 =>
j3 (a2, a1, v25, ()) h21 []) (
j3 (a2, a1, a0, ()) h21 [])
theorem S151_eq (c : CV) (a0 a1 a2 : AV) (h : AH) : enterK Tryz.prog NN P151 c 151 [a0, a1, a2] h = S151 c a0 a1 a2 h := by kernel_rfl
def W151 (c : CV) (l : List AV) (h : AH) : R := match l with | [a0, a1, a2] => S151 c a0 a1 a2 h | _ => none
theorem W151_ok : WOk Tryz.prog 151 W151 := by
  intro c l h r e
  unfold W151 at e
  split at e
  · exact ⟨P151, by rw [S151_eq]; exact e⟩
  · cases e
/- (quietus/check.stack).inmost -/
def P152 : Pl := .z
def S152 (_ : CV) (a0 : AV) (h : AH) : R :=
pLenS a0 fun v0 =>
pInt .eql v0 (.int .i64 (.ofNat 0)) fun v1 =>
pCond v1 (
some ((.int .i64 (.negSucc 0)), h)) (
pLenS a0 fun v2 =>
pInt .sub v2 (.int .i64 (.ofNat 1)) fun v3 =>
pIdxS a0 v3 1 fun v4 =>
pLoad1 h v4 fun v5 =>
some (v5, h))
theorem S152_eq (c : CV) (a0 : AV) (h : AH) : enterK Tryz.prog NN P152 c 152 [a0] h = S152 c a0 h := by kernel_rfl
def W152 (c : CV) (l : List AV) (h : AH) : R := match l with | [a0] => S152 c a0 h | _ => none
theorem W152_ok : WOk Tryz.prog 152 W152 := by
  intro c l h r e
  unfold W152 at e
  split at e
  · exact ⟨P152, by rw [S152_eq]; exact e⟩
  · cases e
/- quietus/check.jumps -/
def P153 : Pl := (.n none .z (.n none (.n none .z (.n none (.n (some [11, 10, 9, 2, 1]) (.n none .z (.n none .z (.n none (.n (some [11, 10, 9, 2, 1]) (.n none .z (.n none .z (.n none (.r [[33, 26, 11, 10, 9, 7, 6, 2, 1], [38, 33, 26, 11, 10, 9, 7, 6, 2, 1], [39, 26, 11, 10, 9, 7, 6, 2, 1], [48, 41, 11, 10, 9, 7, 6, 2, 1], [58, 48, 41, 11, 10, 9, 6, 2, 1], [59, 41, 11, 10, 9, 6, 2, 1]]) .z))) .z) .z))) .z) .z)) .z))
def S153 (c : CV) (a0 a1 : AV) (h : AH) : R :=
pBox h 31 a0 fun v0 h1 =>
pFieldA v0 0 fun v2 =>
pLoad1 h1 v2 fun v3 =>
pLenS v3 fun v4 =>
loopC (σ := AV × AV × AV × AV × AV × Unit) NN (fun i8 s5 h6 d7 =>
pInt .lss s5.1 s5.2.1 fun v9 =>
pCond v9 (
joinC (α := AV × AV × AV × AV × AV × Unit → AH → List Nat → R) (fun s10 h11 d12 =>
pInt .add s10.1 (.int .i64 (.ofNat 1)) fun v14 =>
i8 (v14, s10.2.1, s10.2.2.1, s10.2.2.2.1, s10.2.2.2.2.1, ()) h11 d12) fun j13 =>
pIdxS s5.2.2.1 s5.1 5 fun v15 =>
pLoadN h6 v15 5 fun v16 =>
pBox h6 28 (.agg [(.int .i64 (.ofNat 0)), (.int .i64 (.ofNat 0)), (.int .i64 (.ofNat 0)), (.int .i64 (.ofNat 0)), (.int .u64 (.ofNat 0))]) fun v17 h18 =>
pStore h18 v17 v16 5 fun h19 =>
pFieldA v17 0 fun v20 =>
pLoad1 h19 v20 fun v21 =>
pCall c (.fn 184 [] []) [v21] h19 fun v22 h23 =>
pUn .not v22 fun v24 =>
pCond v24 (
j13 (s5.1, s5.2.1, s5.2.2.1, s5.2.2.2.1, s5.2.2.2.2.1, ()) h23 d7) (
pFieldA v17 3 fun v25 =>
pLoad1 h23 v25 fun v26 =>
pFieldA s5.2.2.2.1 0 fun v27 =>
pLoad1 h23 v27 fun v28 =>
pLenS v28 fun v29 =>
pInt .gtr v26 v29 fun v30 =>
joinC (α := AV × AV × AV × AV × AV × AV × AV × AV × AV × Unit → AH → R) (fun s31 h32 =>
joinC (α := AV × AV × AV × AV × AV × AV × AV × AV × AV × AV × Unit → AH → R) (fun s34 h35 =>
joinC (α := AV × AV × AV × AV × AV × AV × AV × AV × AV × Unit → AH → R) (fun s37 h38 =>
pPick s37.2.1 (.bool true) s37.1 fun v40 =>
joinC (α := AV × AV × AV × AV × AV × AV × AV × AV × AV × Unit → AH → R) (fun s41 h42 =>
joinC (α := AV × AV × AV × AV × AV × AV × AV × AV × AV × Unit → AH → R) (fun s44 h45 =>
joinC (α := AV × AV × AV × AV × AV × AV × AV × AV × Unit → AH → R) (fun s47 h48 =>
pPick s47.2.1 (.bool true) s47.1 fun v50 =>
pCond v50 (
pLeave d7 h48 fun h51 =>
some ((.tup [s47.2.2.2.2.2.1, (.int .i64 (.ofNat 2))]), h51)) (
j13 (s47.2.2.1, s47.2.2.2.1, s47.2.2.2.2.1, s47.2.2.2.2.2.2.1, s47.2.2.2.2.2.2.2.1, ()) h48 d7)) fun j49 =>
pWant s44.2.2.1 false (
pPick s44.2.1 s44.1 (.bool false) fun v52 =>
j49 (v52, s44.2.2.1, s44.2.2.2.1, s44.2.2.2.2.1, s44.2.2.2.2.2.1, s44.2.2.2.2.2.2.1, s44.2.2.2.2.2.2.2.1, s44.2.2.2.2.2.2.2.2.1, ()) h45) (
j49 (.undef, s44.2.2.1, s44.2.2.2.1, s44.2.2.2.2.1, s44.2.2.2.2.2.1, s44.2.2.2.2.2.2.1, s44.2.2.2.2.2.2.2.1, s44.2.2.2.2.2.2.2.2.1, ()) h45)) fun j46 =>
pWant s41.1 true (
pFieldA s41.2.2.2.2.2.1 3 fun v53 =>
pLoad1 h42 v53 fun v54 =>
pIdxS s41.2.2.2.2.2.2.2.2.1 v54 1 fun v55 =>
pLoad1 h42 v55 fun v56 =>
pIdxS s41.2.2.2.2.2.2.2.2.1 s41.2.2.2.2.2.2.1 1 fun v57 =>
pLoad1 h42 v57 fun v58 =>
pInt .neq v56 v58 fun v59 =>
j46 (v59, s41.1, s41.2.1, s41.2.2.1, s41.2.2.2.1, s41.2.2.2.2.1, s41.2.2.2.2.2.2.1, s41.2.2.2.2.2.2.2.1, s41.2.2.2.2.2.2.2.2.1, ()) h42) (
j46 (.undef, s41.1, s41.2.1, s41.2.2.1, s41.2.2.2.1, s41.2.2.2.2.1, s41.2.2.2.2.2.2.1, s41.2.2.2.2.2.2.2.1, s41.2.2.2.2.2.2.2.2.1, ()) h42)) fun j43 =>
pWant v40 false (
pFieldA s37.2.2.2.2.2.1 3 fun v60 =>
pLoad1 h38 v60 fun v61 =>
pFieldA s37.2.2.2.2.2.2.2.1 0 fun v62 =>
pLoad1 h38 v62 fun v63 =>
pLenS v63 fun v64 =>
pInt .lss v61 v64 fun v65 =>
j43 (v65, v40, s37.2.2.1, s37.2.2.2.1, s37.2.2.2.2.1, s37.2.2.2.2.2.1, s37.2.2.2.2.2.2.1, s37.2.2.2.2.2.2.2.1, s37.2.2.2.2.2.2.2.2.1, ()) h38) (
j43 (.undef, v40, s37.2.2.1, s37.2.2.2.1, s37.2.2.2.2.1, s37.2.2.2.2.2.1, s37.2.2.2.2.2.2.1, s37.2.2.2.2.2.2.2.1, s37.2.2.2.2.2.2.2.2.1, ()) h38)) fun j39 =>
pWant s34.2.2.1 false (
pPick s34.2.1 s34.1 (.bool false) fun v66 =>
j39 (v66, s34.2.2.1, s34.2.2.2.1, s34.2.2.2.2.1, s34.2.2.2.2.2.1, s34.2.2.2.2.2.2.1, s34.2.2.2.2.2.2.2.1, s34.2.2.2.2.2.2.2.2.1, s34.2.2.2.2.2.2.2.2.2.1, ()) h35) (
j39 (.undef, s34.2.2.1, s34.2.2.2.1, s34.2.2.2.2.1, s34.2.2.2.2.2.1, s34.2.2.2.2.2.2.1, s34.2.2.2.2.2.2.2.1, s34.2.2.2.2.2.2.2.2.1, s34.2.2.2.2.2.2.2.2.2.1, ()) h35)) fun j36 =>
pWant s31.1 true (
pIdxS s31.2.2.2.2.2.2.2.2.1 s31.2.2.2.2.2.2.1 1 fun v67 =>
pLoad1 h32 v67 fun v68 =>
pInt .neq v68 (.int .i64 (.negSucc 0)) fun v69 =>
j36 (v69, s31.1, s31.2.1, s31.2.2.1, s31.2.2.2.1, s31.2.2.2.2.1, s31.2.2.2.2.2.1, s31.2.2.2.2.2.2.1, s31.2.2.2.2.2.2.2.1, s31.2.2.2.2.2.2.2.2.1, ()) h32) (
j36 (.undef, s31.1, s31.2.1, s31.2.2.1, s31.2.2.2.1, s31.2.2.2.2.1, s31.2.2.2.2.2.1, s31.2.2.2.2.2.2.1, s31.2.2.2.2.2.2.2.1, s31.2.2.2.2.2.2.2.2.1, ()) h32)) fun j33 =>
pWant v30 false (
pFieldA v17 3 fun v70 =>
pLoad1 h23 v70 fun v71 =>
pFieldA s5.2.2.2.1 0 fun v72 =>
pLoad1 h23 v72 fun v73 =>
pLenS v73 fun v74 =>
pInt .eql v71 v74 fun v75 =>
j33 (v75, v30, s5.1, s5.2.1, s5.2.2.1, v17, s5.1, s5.2.2.2.1, s5.2.2.2.2.1, ()) h23) (
j33 (.undef, v30, s5.1, s5.2.1, s5.2.2.1, v17, s5.1, s5.2.2.2.1, s5.2.2.2.2.1, ()) h23))) (
pLeave d7 h6 fun h76 =>
some ((.tup [(.int .i64 (.ofNat 0)), (.int .i64 (.ofNat 0))]), h76))) ((.int .i64 (.ofNat 0)), v4, v3, v0, a1, ()) h1 []
theorem S153_eq (c : CV) (a0 a1 : AV) (h : AH) : enterK Tryz.prog NN P153 c 153 [a0, a1] h = S153 c a0 a1 h := by kernel_rfl
def W153 (c : CV) (l : List AV) (h : AH) : R := match l with | [a0, a1] => S153 c a0 a1 h | _ => none
theorem W153_ok : WOk Tryz.prog 153 W153 := by
  intro c l h r e
  unfold W153 at e
  split at e
  · exact ⟨P153, by rw [S153_eq]; exact e⟩
  · cases e
/- quietus/check.regions -/
def P154 : Pl := (.n none .z (.n none .z (.n none .z (.n none (.n none .z (.n none (.n (some [14, 13, 12, 4, 3]) .z .z) .z)) .z))))
def S154 (c : CV) (a0 : AV) (h : AH) : R :=
pBox h 31 a0 fun v0 h1 =>
pFieldA v0 0 fun v2 =>
pLoad1 h1 v2 fun v3 =>
pLenS v3 fun v4 =>
pMake h1 3 [(.int .i64 (.ofNat 0))] v4 v4 fun v5 h6 =>
pFieldA v0 0 fun v7 =>
pLoad1 h6 v7 fun v8 =>
pLenS v8 fun v9 =>
loopC (σ := AV × AV × AV × AV × AV × Unit) NN (fun i13 s10 h11 d12 =>
pInt .lss s10.1 s10.2.1 fun v14 =>
pCond v14 (
pIdxS s10.2.2.1 s10.1 5 fun v15 =>
pLoadN h11 v15 5 fun v16 =>
pBox h11 28 (.agg [(.int .i64 (.ofNat 0)), (.int .i64 (.ofNat 0)), (.int .i64 (.ofNat 0)), (.int .i64 (.ofNat 0)), (.int .u64 (.ofNat 0))]) fun v17 h18 =>
pStore h18 v17 v16 5 fun h19 =>
pCall c (.fn 152 [] []) [s10.2.2.2.1] h19 fun v20 h21 =>
pIdxS s10.2.2.2.2.1 s10.1 1 fun v22 =>
pStore h21 v22 v20 1 fun h23 =>
pFieldA v17 0 fun v24 =>
pLoad1 h23 v24 fun v25 =>
pCall c (.fn 151 [] []) [s10.2.2.2.1, s10.1, v25] h23 fun v26 h27 =>
pInt .add s10.1 (.int .i64 (.ofNat 1)) fun v28 =>
i13 (v28, s10.2.1, s10.2.2.1, v26, s10.2.2.2.2.1, ()) h27 d12) (
pLeave d12 h11 fun h29 =>
some (s10.2.2.2.2.1, h29))) ((.int .i64 (.ofNat 0)), v9, v8, .nils, v5, ()) h6 []
theorem S154_eq (c : CV) (a0 : AV) (h : AH) : enterK Tryz.prog NN P154 c 154 [a0] h = S154 c a0 h := by kernel_rfl
def W154 (c : CV) (l : List AV) (h : AH) : R := match l with | [a0] => S154 c a0 h | _ => none
theorem W154_ok : WOk Tryz.prog 154 W154 := by
  intro c l h r e
  unfold W154 at e
  split at e
  · exact ⟨P154, by rw [S154_eq]; exact e⟩
  · cases e
/- quietus/check.ends -/
def P155 : Pl := .z
def S155 (_ : CV) (a0 : AV) (h : AH) : R :=
pInt .eql a0 (.int .i64 (.ofNat 15)) fun v0 =>
pCond v0 (
some ((.int .i64 (.ofNat 14)), h)) (
pInt .eql a0 (.int .i64 (.ofNat 18)) fun v1 =>
pCond v1 (
some ((.int .i64 (.ofNat 17)), h)) (
pInt .eql a0 (.int .i64 (.ofNat 19)) fun v2 =>
pCond v2 (
some ((.int .i64 (.ofNat 18)), h)) (
some ((.int .i64 (.ofNat 0)), h))))
theorem S155_eq (c : CV) (a0 : AV) (h : AH) : enterK Tryz.prog NN P155 c 155 [a0] h = S155 c a0 h := by kernel_rfl
def W155 (c : CV) (l : List AV) (h : AH) : R := match l with | [a0] => S155 c a0 h | _ => none
theorem W155_ok : WOk Tryz.prog 155 W155 := by
  intro c l h r e
  unfold W155 at e
  split at e
  · exact ⟨P155, by rw [S155_eq]; exact e⟩
  · cases e
/- (*quietus/interp.Interp).fail -/
def P156 : Pl := .z
def S156 (_ : CV) (a0 a1 : AV) (h : AH) : R :=
pNil a0 fun v0 =>
pFieldA v0 5 fun v1 =>
pStore h v1 (.int .i64 (.ofNat 4)) 1 fun h2 =>
pNil a0 fun v3 =>
pFieldA v3 4 fun v4 =>
pStore h2 v4 a1 1 fun h5 =>
some ((.tup []), h5)
theorem S156_eq (c : CV) (a0 a1 : AV) (h : AH) : enterK Tryz.prog NN P156 c 156 [a0, a1] h = S156 c a0 a1 h := by kernel_rfl
def W156 (c : CV) (l : List AV) (h : AH) : R := match l with | [a0, a1] => S156 c a0 a1 h | _ => none
theorem W156_ok : WOk Tryz.prog 156 W156 := by
  intro c l h r e
  unfold W156 at e
  split at e
  · exact ⟨P156, by rw [S156_eq]; exact e⟩
  · cases e
/- (*quietus/interp.Interp).do -/
def P157 : Pl := (.n none .z (.n none .z (.n none (.n none .z (.n (some []) (.n none .z (.n none .z (.n none .z (.n none .z (.n none .z (.n none .z (.n none .z (.n none .z (.n none .z (.n none .z (.n none .z (.n none .z (.n none .z (.n none .z (.n none .z (.n none .z (.n none .z (.n none .z (.n none .z (.n none .z (.n none .z (.n none .z (.n none .z (.n none .z (.n (some [120, 6, 5, 3, 0]) .z .z))))))))))))))))))))))))) .z)) .z)))
def S157 (c : CV) (a0 a1 : AV) (h : AH) : R :=
pBox h 28 a1 fun v0 h1 =>
pFieldA v0 1 fun v2 =>
pLoad1 h1 v2 fun v3 =>
pInt .rem v3 (.int .i64 (.ofNat 8)) fun v4 =>
pNil a0 fun v5 =>
pFieldA v5 6 fun v6 =>
pIdxP v6 v4 8 1 fun v7 =>
pFieldA v0 2 fun v8 =>
pLoad1 h1 v8 fun v9 =>
pInt .rem v9 (.int .i64 (.ofNat 8)) fun v10 =>
pNil a0 fun v11 =>
pFieldA v11 6 fun v12 =>
pIdxP v12 v10 8 1 fun v13 =>
pLoad1 h1 v13 fun v14 =>
pFieldA v0 3 fun v15 =>
pLoad1 h1 v15 fun v16 =>
pInt .rem v16 (.int .i64 (.ofNat 8)) fun v17 =>
pNil a0 fun v18 =>
pFieldA v18 6 fun v19 =>
pIdxP v19 v17 8 1 fun v20 =>
pLoad1 h1 v20 fun v21 =>
pFieldA v0 0 fun v22 =>
pLoad1 h1 v22 fun v23 =>
joinC (α := Unit → AH → List Nat → R) (fun _ h25 d26 =>
pLeave d26 h25 fun h28 =>
some ((.int .i64 (.ofNat 0)), h28)) fun j27 =>
pInt .eql v23 (.int .i64 (.ofNat 1)) fun v29 =>
pCond v29 (
pFieldA v0 4 fun v30 =>
pLoad1 h1 v30 fun v31 =>
pNil v7 fun v32 =>
pStore h1 v32 v31 1 fun h33 =>
j27 (()) h33 []) (
pInt .eql v23 (.int .i64 (.ofNat 2)) fun v34 =>
pCond v34 (
pNil v7 fun v35 =>
pStore h1 v35 v14 1 fun h36 =>
j27 (()) h36 []) (
pInt .eql v23 (.int .i64 (.ofNat 3)) fun v37 =>
pCond v37 (
pInt .add v14 v21 fun v38 =>
pNil v7 fun v39 =>
pStore h1 v39 v38 1 fun h40 =>
j27 (()) h40 []) (
pInt .eql v23 (.int .i64 (.ofNat 4)) fun v41 =>
pCond v41 (
pInt .sub v14 v21 fun v42 =>
pNil v7 fun v43 =>
pStore h1 v43 v42 1 fun h44 =>
j27 (()) h44 []) (
pInt .eql v23 (.int .i64 (.ofNat 5)) fun v45 =>
pCond v45 (
pInt .mul v14 v21 fun v46 =>
pNil v7 fun v47 =>
pStore h1 v47 v46 1 fun h48 =>
j27 (()) h48 []) (
pInt .eql v23 (.int .i64 (.ofNat 6)) fun v49 =>
pCond v49 (
pInt .lss v14 v21 fun v50 =>
pCall c (.fn 185 [] []) [v50] h1 fun v51 h52 =>
pNil v7 fun v53 =>
pStore h52 v53 v51 1 fun h54 =>
j27 (()) h54 []) (
pInt .eql v23 (.int .i64 (.ofNat 7)) fun v55 =>
pCond v55 (
pInt .eql v14 v21 fun v56 =>
pCall c (.fn 185 [] []) [v56] h1 fun v57 h58 =>
pNil v7 fun v59 =>
pStore h58 v59 v57 1 fun h60 =>
j27 (()) h60 []) (
pInt .eql v23 (.int .i64 (.ofNat 12)) fun v61 =>
pCond v61 (
pFieldA v0 3 fun v62 =>
pLoad1 h1 v62 fun v63 =>
pNil a0 fun v64 =>
pFieldA v64 16 fun v65 =>
pStore h1 v65 v63 1 fun h66 =>
j27 (()) h66 []) (
pInt .eql v23 (.int .i64 (.ofNat 13)) fun v67 =>
pCond v67 (
pNil v7 fun v68 =>
pLoad1 h1 v68 fun v69 =>
pInt .eql v69 (.int .u64 (.ofNat 0)) fun v70 =>
pCond v70 (
pFieldA v0 3 fun v71 =>
pLoad1 h1 v71 fun v72 =>
pNil a0 fun v73 =>
pFieldA v73 16 fun v74 =>
pStore h1 v74 v72 1 fun h75 =>
j27 (()) h75 []) (
j27 (()) h1 [])) (
pInt .eql v23 (.int .i64 (.ofNat 21)) fun v76 =>
pCond v76 (
pNil a0 fun v77 =>
pFieldA v77 14 fun v78 =>
pLoad1 h1 v78 fun v79 =>
pNil v7 fun v80 =>
pLoad1 h1 v80 fun v81 =>
pCall c (.fn 186 [] []) [v79, v81] h1 fun v82 h83 =>
pUn .not v82 fun v84 =>
pCond v84 (
some ((.int .i64 (.ofNat 5)), h83)) (
j27 (()) h83 [])) (
pInt .eql v23 (.int .i64 (.ofNat 22)) fun v85 =>
pCond v85 (
some ((.int .i64 (.ofNat 13)), h1)) (
pInt .eql v23 (.int .i64 (.ofNat 23)) fun v86 =>
pCond v86 (
pLoadN h1 v0 5 fun v87 =>
pCall c (.fn 187 [] []) [a0, v87] h1 fun v88 h89 =>
some (v88, h89)) (
joinC (α := AV × AV × AV × AV × AV × Unit → AH → List Nat → R) (fun s90 h91 d92 =>
pCond s90.1 (
pLoadN h91 s90.2.2.2.1 5 fun v94 =>
pCall c (.fn 188 [] []) [s90.2.2.2.2.1, v94, s90.2.2.1, s90.2.1] h91 fun v95 h96 =>
pLeave d92 h96 fun h97 =>
some (v95, h97)) (
pLoadN h91 s90.2.2.2.1 5 fun v98 =>
pCall c (.fn 189 [] []) [s90.2.2.2.2.1, v98] h91 fun v99 h100 =>
pLeave d92 h100 fun h101 =>
some (v99, h101))) fun j93 =>
pInt .eql v23 (.int .i64 (.ofNat 8)) fun v102 =>
pCond v102 (
j93 (v102, v14, v7, v0, a0, ()) h1 []) (
pInt .eql v23 (.int .i64 (.ofNat 9)) fun v103 =>
pCond v103 (
j93 (v103, v14, v7, v0, a0, ()) h1 []) (
pInt .eql v23 (.int .i64 (.ofNat 10)) fun v104 =>
pCond v104 (
j93 (v104, v14, v7, v0, a0, ()) h1 []) (
pInt .eql v23 (.int .i64 (.ofNat 11)) fun v105 =>
j93 (v105, v14, v7, v0, a0, ()) h1 [])))))))))))))))
theorem S157_eq (c : CV) (a0 a1 : AV) (h : AH) : enterK Tryz.prog NN P157 c 157 [a0, a1] h = S157 c a0 a1 h := by kernel_rfl
def W157 (c : CV) (l : List AV) (h : AH) : R := match l with | [a0, a1] => S157 c a0 a1 h | _ => none
theorem W157_ok : WOk Tryz.prog 157 W157 := by
  intro c l h r e
  unfold W157 at e
  split at e
  · exact ⟨P157, by rw [S157_eq]; exact e⟩
  · cases e
/- quietus/arena.asked -/
def P158 : Pl := (.n none .z (.n none (.n none (.r [[17, 13, 1, 0]]) .z) .z))
def S158 (c : CV) (a0 a1 : AV) (h : AH) : R :=
pInt .leq a1 (.int .i64 (.ofNat 14)) fun v0 =>
joinC (α := AV × AV × AV × AV × Unit → AH → R) (fun s1 h2 =>
pPick s1.2.1 (.bool true) s1.1 fun v4 =>
pCond v4 (
some ((.tup [(.int .i64 (.ofNat 0)), (.bool false), (.int .i64 (.ofNat 2))]), h2)) (
pInt .sub s1.2.2.1 (.int .i64 (.ofNat 1)) fun v5 =>
pCall c (.fn 159 [] []) [s1.2.2.2.1, v5] h2 fun v6 h7 =>
pExtract v6 0 fun v8 =>
pExtract v6 1 fun v9 =>
pInt .neq v9 (.int .i64 (.ofNat 0)) fun v10 =>
pCond v10 (
some ((.tup [(.int .i64 (.ofNat 0)), (.bool false), v9]), h7)) (
pCall c (.fn 191 [] []) [v8] h7 fun v11 h12 =>
pExtract v11 0 fun v13 =>
pExtract v11 1 fun v14 =>
pInt .eql v13 (.int .i64 (.ofNat 0)) fun v15 =>
pCond v15 (
some ((.tup [(.int .i64 (.ofNat 0)), (.bool false), (.int .i64 (.ofNat 2))]), h12)) (
some ((.tup [v13, v14, (.int .i64 (.ofNat 0))]), h12))))) fun j3 =>
pWant v0 false (
pCall c (.fn 190 [] []) [a0] h fun v16 h17 =>
pInt .geq a1 v16 fun v18 =>
j3 (v18, v0, a1, a0, ()) h17) (
j3 (.undef, v0, a1, a0, ()) h)
theorem S158_eq (c : CV) (a0 a1 : AV) (h : AH) : enterK Tryz.prog NN P158 c 158 [a0, a1] h = S158 c a0 a1 h := by kernel_rfl
def W158 (c : CV) (l : List AV) (h : AH) : R := match l with | [a0, a1] => S158 c a0 a1 h | _ => none
theorem W158_ok : WOk Tryz.prog 158 W158 := by
  intro c l h r e
  unfold W158 at e
  split at e
  · exact ⟨P158, by rw [S158_eq]; exact e⟩
  · cases e
/- (*quietus/view.View).Read -/
def P159 : Pl := .z
def S159 (c : CV) (a0 a1 : AV) (h : AH) : R :=
pCall c (.fn 192 [] []) [a0, a1] h fun v0 h1 =>
pUn .not v0 fun v2 =>
pCond v2 (
some ((.tup [(.int .u64 (.ofNat 0)), (.int .i64 (.ofNat 2))]), h1)) (
pNil a0 fun v3 =>
pFieldA v3 2 fun v4 =>
pLoad1 h1 v4 fun v5 =>
pCall c (.fn 193 [] []) [v5, a1] h1 fun v6 h7 =>
pExtract v6 0 fun v8 =>
pExtract v6 1 fun v9 =>
pCond v9 (
some ((.tup [v8, (.int .i64 (.ofNat 0))]), h7)) (
pNil a0 fun v10 =>
pFieldA v10 0 fun v11 =>
pLoad1 h7 v11 fun v12 =>
pIdxS v12 a1 2 fun v13 =>
pLoadN h7 v13 2 fun v14 =>
pBox h7 208 (.agg [(.int .u64 (.ofNat 0)), (.bool false)]) fun v15 h16 =>
pStore h16 v15 v14 2 fun h17 =>
pFieldA v15 1 fun v18 =>
pLoad1 h17 v18 fun v19 =>
pCond v19 (
pFieldA v15 0 fun v20 =>
pLoad1 h17 v20 fun v21 =>
some ((.tup [v21, (.int .i64 (.ofNat 0))]), h17)) (
pNil a0 fun v22 =>
pFieldA v22 3 fun v23 =>
pStore h17 v23 a1 1 fun h24 =>
some ((.tup [(.int .u64 (.ofNat 0)), (.int .i64 (.ofNat 11))]), h24))))
theorem S159_eq (c : CV) (a0 a1 : AV) (h : AH) : enterK Tryz.prog NN P159 c 159 [a0, a1] h = S159 c a0 a1 h := by kernel_rfl
def W159 (c : CV) (l : List AV) (h : AH) : R := match l with | [a0, a1] => S159 c a0 a1 h | _ => none
theorem W159_ok : WOk Tryz.prog 159 W159 := by
  intro c l h r e
  unfold W159 at e
  split at e
  · exact ⟨P159, by rw [S159_eq]; exact e⟩
  · cases e
/- quietus/arena.head -/
def P160 : Pl := .z
def S160 (_ : CV) (a0 : AV) (h : AH) : R :=
pInt .add (.int .i64 (.ofNat 0)) a0 fun v0 =>
some (v0, h)
theorem S160_eq (c : CV) (a0 : AV) (h : AH) : enterK Tryz.prog NN P160 c 160 [a0] h = S160 c a0 h := by kernel_rfl
def W160 (c : CV) (l : List AV) (h : AH) : R := match l with | [a0] => S160 c a0 h | _ => none
theorem W160_ok : WOk Tryz.prog 160 W160 := by
  intro c l h r e
  unfold W160 at e
  split at e
  · exact ⟨P160, by rw [S160_eq]; exact e⟩
  · cases e
/- (*quietus/view.View).Take -/
def P161 : Pl := (.n none .z (.n none (.n none .z (.n none (.n (some [9, 8, 7, 1, 0]) .z .z) .z)) .z))
def S161 (c : CV) (a0 a1 : AV) (h : AH) : R :=
pLenS a1 fun v0 =>
loopC (σ := AV × AV × AV × AV × AV × Unit) NN (fun i4 s1 h2 d3 =>
pInt .lss s1.1 s1.2.1 fun v5 =>
pCond v5 (
pIdxS s1.2.2.1 s1.1 2 fun v6 =>
pLoadN h2 v6 2 fun v7 =>
pBox h2 158 (.agg [(.int .i64 (.ofNat 0)), (.int .u64 (.ofNat 0))]) fun v8 h9 =>
pStore h9 v8 v7 2 fun h10 =>
pFieldA v8 0 fun v11 =>
pLoad1 h10 v11 fun v12 =>
pCall c (.fn 192 [] []) [s1.2.2.2.2.1, v12] h10 fun v13 h14 =>
pUn .not v13 fun v15 =>
pCond v15 (
pLeave d3 h14 fun h16 =>
some ((.int .i64 (.ofNat 2)), h16)) (
pInt .add s1.1 (.int .i64 (.ofNat 1)) fun v17 =>
i4 (v17, s1.2.1, s1.2.2.1, s1.2.2.2.1, s1.2.2.2.2.1, ()) h14 d3)) (
pNil s1.2.2.2.2.1 fun v18 =>
pFieldA v18 2 fun v19 =>
pLoad1 h2 v19 fun v20 =>
pCall c (.fn 194 [] []) [v20, s1.2.2.2.1] h2 fun v21 h22 =>
pLeave d3 h22 fun h23 =>
some (v21, h23))) ((.int .i64 (.ofNat 0)), v0, a1, a1, a0, ()) h []
theorem S161_eq (c : CV) (a0 a1 : AV) (h : AH) : enterK Tryz.prog NN P161 c 161 [a0, a1] h = S161 c a0 a1 h := by kernel_rfl
def W161 (c : CV) (l : List AV) (h : AH) : R := match l with | [a0, a1] => S161 c a0 a1 h | _ => none
theorem W161_ok : WOk Tryz.prog 161 W161 := by
  intro c l h r e
  unfold W161 at e
  split at e
  · exact ⟨P161, by rw [S161_eq]; exact e⟩
  · cases e
/- slices.Backward[[]*quietus/levels.level,*quietus/levels.level] -/
def P162 : Pl := .z
def S162 (_ : CV) (a0 : AV) (h : AH) : R :=
pBox h 226 a0 fun v0 h1 =>
some ((.fn 195 [] [v0]), h1)
theorem S162_eq (c : CV) (a0 : AV) (h : AH) : enterK Tryz.prog NN P162 c 162 [a0] h = S162 c a0 h := by kernel_rfl
def W162 (c : CV) (l : List AV) (h : AH) : R := match l with | [a0] => S162 c a0 h | _ => none
theorem W162_ok : WOk Tryz.prog 162 W162 := by
  intro c l h r e
  unfold W162 at e
  split at e
  · exact ⟨P162, by rw [S162_eq]; exact e⟩
  · cases e
/- quietus/writes.New -/
def P163 : Pl := .z
def S163 (_ : CV) (a0 : AV) (h : AH) : R :=
pMM false [a0, (.int .i64 (.ofNat 96))] fun v0 =>
pMM true [(.int .i64 (.ofNat 0)), v0] fun v1 =>
pBuild [(.int .i64 (.ofNat 0)), .nils] [(0, 1, v1)] fun v2 =>
pBox h 259 v2 fun v3 h4 =>
some (v3, h4)
theorem S163_eq (c : CV) (a0 : AV) (h : AH) : enterK Tryz.prog NN P163 c 163 [a0] h = S163 c a0 h := by kernel_rfl
def W163 (c : CV) (l : List AV) (h : AH) : R := match l with | [a0] => S163 c a0 h | _ => none
theorem W163_ok : WOk Tryz.prog 163 W163 := by
  intro c l h r e
  unfold W163 at e
  split at e
  · exact ⟨P163, by rw [S163_eq]; exact e⟩
  · cases e
/- (*quietus/writes.Writes).Take -/
def P164 : Pl := (.n none .z (.n none .z (.n none (.n none .z (.n none (.n (some [13, 12, 11, 5, 0]) .z .z) .z)) .z)))
def S164 (c : CV) (a0 a1 : AV) (h : AH) : R :=
pCall c (.fn 165 [] []) [a0] h fun v0 h1 =>
pLenS a1 fun v2 =>
loopC (σ := AV × AV × AV × AV × AV × Unit) NN (fun i6 s3 h4 d5 =>
pInt .lss s3.1 s3.2.1 fun v7 =>
pCond v7 (
pIdxS s3.2.2.1 s3.1 2 fun v8 =>
pLoadN h4 v8 2 fun v9 =>
pBox h4 158 (.agg [(.int .i64 (.ofNat 0)), (.int .u64 (.ofNat 0))]) fun v10 h11 =>
pStore h11 v10 v9 2 fun h12 =>
pFieldA v10 0 fun v13 =>
pLoad1 h12 v13 fun v14 =>
pFieldA v10 1 fun v15 =>
pLoad1 h12 v15 fun v16 =>
pCall c (.fn 196 [] []) [s3.2.2.2.2.1, v14, v16] h12 fun v17 h18 =>
pInt .neq v17 (.int .i64 (.ofNat 0)) fun v19 =>
pCond v19 (
pNil s3.2.2.2.2.1 fun v20 =>
pFieldA v20 1 fun v21 =>
pStore h18 v21 s3.2.2.2.1 1 fun h22 =>
pLeave d5 h22 fun h23 =>
some (v17, h23)) (
pInt .add s3.1 (.int .i64 (.ofNat 1)) fun v24 =>
i6 (v24, s3.2.1, s3.2.2.1, s3.2.2.2.1, s3.2.2.2.2.1, ()) h18 d5)) (
pLeave d5 h4 fun h25 =>
some ((.int .i64 (.ofNat 0)), h25))) ((.int .i64 (.ofNat 0)), v2, a1, v0, a0, ()) h1 []
theorem S164_eq (c : CV) (a0 a1 : AV) (h : AH) : enterK Tryz.prog NN P164 c 164 [a0, a1] h = S164 c a0 a1 h := by kernel_rfl
def W164 (c : CV) (l : List AV) (h : AH) : R := match l with | [a0, a1] => S164 c a0 a1 h | _ => none
theorem W164_ok : WOk Tryz.prog 164 W164 := by
  intro c l h r e
  unfold W164 at e
  split at e
  · exact ⟨P164, by rw [S164_eq]; exact e⟩
  · cases e
/- (*quietus/writes.Writes).All -/
def P165 : Pl := .z
def S165 (c : CV) (a0 : AV) (h : AH) : R :=
pNil a0 fun v0 =>
pFieldA v0 1 fun v1 =>
pLoad1 h v1 fun v2 =>
pCall c (.fn 94 [] []) [v2] h fun v3 h4 =>
some (v3, h4)
theorem S165_eq (c : CV) (a0 : AV) (h : AH) : enterK Tryz.prog NN P165 c 165 [a0] h = S165 c a0 h := by kernel_rfl
def W165 (c : CV) (l : List AV) (h : AH) : R := match l with | [a0] => S165 c a0 h | _ => none
theorem W165_ok : WOk Tryz.prog 165 W165 := by
  intro c l h r e
  unfold W165 at e
  split at e
  · exact ⟨P165, by rw [S165_eq]; exact e⟩
  · cases e
/- slices.Sort[[]int,int] -/
def P166 : Pl := .z
def S166 (c : CV) (a0 : AV) (h : AH) : R :=
pLenS a0 fun v0 =>
pConvI .u64 v0 fun v1 =>
pCall c (.fn 198 [] []) [v1] h fun v2 h3 =>
pCall c (.fn 197 [] []) [a0, (.int .i64 (.ofNat 0)), v0, v2] h3 fun _ h5 =>
some ((.tup []), h5)
theorem S166_eq (c : CV) (a0 : AV) (h : AH) : enterK Tryz.prog NN P166 c 166 [a0] h = S166 c a0 h := by kernel_rfl
def W166 (c : CV) (l : List AV) (h : AH) : R := match l with | [a0] => S166 c a0 h | _ => none
theorem W166_ok : WOk Tryz.prog 166 W166 := by
  intro c l h r e
  unfold W166 at e
  split at e
  · exact ⟨P166, by rw [S166_eq]; exact e⟩
  · cases e
/- slices.Compact[[]int,int] -/
def P167 : Pl := (.n none .z (.n none .z (.n none (.n none .z (.n none (.n (some [3, 0]) (.n none .z (.n none (.n none (.n none .z (.n none (.n none .z (.n none (.n none .z (.n none (.n (some [5, 4, 3, 0]) (.n none .z (.n none (.n (some [5, 4, 3, 0]) .z .z) .z)) .z) .z)) .z)) .z)) .z) .z)) .z) .z)) .z)))
def S167 (_ : CV) (a0 : AV) (h : AH) : R :=
pLenS a0 fun v0 =>
pInt .lss v0 (.int .i64 (.ofNat 2)) fun v1 =>
pCond v1 (
some (a0, h)) (
loopC (σ := AV × AV × Unit) NN (fun i5 s2 h3 d4 =>
pLenS s2.2.1 fun v6 =>
pInt .lss s2.1 v6 fun v7 =>
pCond v7 (
pIdxS s2.2.1 s2.1 1 fun v8 =>
pLoad1 h3 v8 fun v9 =>
pInt .sub s2.1 (.int .i64 (.ofNat 1)) fun v10 =>
pIdxS s2.2.1 v10 1 fun v11 =>
pLoad1 h3 v11 fun v12 =>
pInt .eql v9 v12 fun v13 =>
pCond v13 (
pSlice h3 3 1 s2.2.1 (some s2.1) none fun v14 =>
loopC (σ := AV × AV × AV × AV × Unit) NN (fun i18 s15 h16 d17 =>
pLenS s15.2.1 fun v19 =>
pInt .lss s15.1 v19 fun v20 =>
pCond v20 (
joinC (α := AV × AV × AV × AV × Unit → AH → List Nat → R) (fun s21 h22 d23 =>
pInt .add s21.1 (.int .i64 (.ofNat 1)) fun v25 =>
i18 (v25, s21.2.1, s21.2.2.1, s21.2.2.2.1, ()) h22 d23) fun j24 =>
pIdxS s15.2.1 s15.1 1 fun v26 =>
pLoad1 h16 v26 fun v27 =>
pInt .sub s15.1 (.int .i64 (.ofNat 1)) fun v28 =>
pIdxS s15.2.1 v28 1 fun v29 =>
pLoad1 h16 v29 fun v30 =>
pInt .neq v27 v30 fun v31 =>
pCond v31 (
pIdxS s15.2.1 s15.1 1 fun v32 =>
pLoad1 h16 v32 fun v33 =>
pIdxS s15.2.2.2.1 s15.2.2.1 1 fun v34 =>
pStore h16 v34 v33 1 fun h35 =>
pInt .add s15.2.2.1 (.int .i64 (.ofNat 1)) fun v36 =>
j24 (s15.1, s15.2.1, v36, s15.2.2.2.1, ()) h35 d17) (
j24 (s15.1, s15.2.1, s15.2.2.1, s15.2.2.2.1, ()) h16 d17)) (
pSlice h16 3 1 s15.2.2.2.1 (some s15.2.2.1) none fun _ =>
none /- op -/)) ((.int .i64 (.ofNat 1)), v14, s2.1, s2.2.1, ()) h3 d4) (
pInt .add s2.1 (.int .i64 (.ofNat 1)) fun v38 =>
i5 (v38, s2.2.1, ()) h3 d4)) (
pLeave d4 h3 fun h39 =>
some (s2.2.1, h39))) ((.int .i64 (.ofNat 1)), a0, ()) h [])
theorem S167_eq (c : CV) (a0 : AV) (h : AH) : enterK Tryz.prog NN P167 c 167 [a0] h = S167 c a0 h := by kernel_rfl
def W167 (c : CV) (l : List AV) (h : AH) : R := match l with | [a0] => S167 c a0 h | _ => none
theorem W167_ok : WOk Tryz.prog 167 W167 := by
  intro c l h r e
  unfold W167 at e
  split at e
  · exact ⟨P167, by rw [S167_eq]; exact e⟩
  · cases e
/- (*quietus/fetch.Fetch).End -/
def P168 : Pl := .z
def S168 (c : CV) (a0 : AV) (h : AH) : R :=
pNil a0 fun v0 =>
pFieldA v0 0 fun v1 =>
pCall c (.fn 122 [] []) [v1] h fun v2 h3 =>
some (v2, h3)
theorem S168_eq (c : CV) (a0 : AV) (h : AH) : enterK Tryz.prog NN P168 c 168 [a0] h = S168 c a0 h := by kernel_rfl
def W168 (c : CV) (l : List AV) (h : AH) : R := match l with | [a0] => S168 c a0 h | _ => none
theorem W168_ok : WOk Tryz.prog 168 W168 := by
  intro c l h r e
  unfold W168 at e
  split at e
  · exact ⟨P168, by rw [S168_eq]; exact e⟩
  · cases e
/- (*quietus/reads.Reads).Add -/
def P169 : Pl := (.n none .z (.n none (.n none (.r [[13, 10, 3, 0], [18, 15, 3, 0]]) .z) .z))
def S169 (c : CV) (a0 a1 : AV) (h : AH) : R :=
pBox h 106 a1 fun v0 h1 =>
pFieldA v0 0 fun v2 =>
pLoad1 h1 v2 fun v3 =>
pInt .lss v3 (.int .i64 (.ofNat 0)) fun v4 =>
joinC (α := AV × AV × AV × AV × Unit → AH → R) (fun s5 h6 =>
pPick s5.2.1 (.bool true) s5.1 fun v8 =>
joinC (α := AV × AV × AV × AV × Unit → AH → R) (fun s9 h10 =>
pPick s9.2.1 (.bool true) s9.1 fun v12 =>
pCond v12 (
some ((.int .i64 (.ofNat 1)), h10)) (
pFieldA s9.2.2.1 0 fun v13 =>
pLoad1 h10 v13 fun v14 =>
pCall c (.fn 199 [] []) [s9.2.2.2.1, v14] h10 fun v15 h16 =>
pExtract v15 0 fun v17 =>
pExtract v15 1 fun v18 =>
pCond v18 (
pFieldA s9.2.2.1 1 fun v19 =>
pLoad1 h16 v19 fun v20 =>
pInt .neq v17 v20 fun v21 =>
pCond v21 (
some ((.int .i64 (.ofNat 14)), h16)) (
some ((.int .i64 (.ofNat 0)), h16))) (
pNil s9.2.2.2.1 fun v22 =>
pFieldA v22 1 fun v23 =>
pLoad1 h16 v23 fun v24 =>
pLenS v24 fun v25 =>
pNil s9.2.2.2.1 fun v26 =>
pFieldA v26 0 fun v27 =>
pLoad1 h16 v27 fun v28 =>
pInt .eql v25 v28 fun v29 =>
pCond v29 (
some ((.int .i64 (.ofNat 5)), h16)) (
pNil s9.2.2.2.1 fun v30 =>
pFieldA v30 1 fun v31 =>
pLoad1 h16 v31 fun v32 =>
pLoadN h16 s9.2.2.1 2 fun v33 =>
pBuildS h16 106 [(.int .i64 (.ofNat 0)), (.int .u64 (.ofNat 0))] 1 [(0, 2, v33)] fun v34 h35 =>
pAppend h35 106 2 v32 v34 fun v36 h37 =>
pNil s9.2.2.2.1 fun v38 =>
pFieldA v38 1 fun v39 =>
pStore h37 v39 v36 1 fun h40 =>
some ((.int .i64 (.ofNat 0)), h40))))) fun j11 =>
pWant v8 false (
pFieldA s5.2.2.1 1 fun v41 =>
pLoad1 h6 v41 fun v42 =>
pInt .geq v42 (.int .u64 (.ofNat 4611686018427387904)) fun v43 =>
j11 (v43, v8, s5.2.2.1, s5.2.2.2.1, ()) h6) (
j11 (.undef, v8, s5.2.2.1, s5.2.2.2.1, ()) h6)) fun j7 =>
pWant v4 false (
pFieldA v0 0 fun v44 =>
pLoad1 h1 v44 fun v45 =>
pInt .geq v45 (.int .i64 (.ofNat 16)) fun v46 =>
j7 (v46, v4, v0, a0, ()) h1) (
j7 (.undef, v4, v0, a0, ()) h1)
theorem S169_eq (c : CV) (a0 a1 : AV) (h : AH) : enterK Tryz.prog NN P169 c 169 [a0, a1] h = S169 c a0 a1 h := by kernel_rfl
def W169 (c : CV) (l : List AV) (h : AH) : R := match l with | [a0, a1] => S169 c a0 a1 h | _ => none
theorem W169_ok : WOk Tryz.prog 169 W169 := by
  intro c l h r e
  unfold W169 at e
  split at e
  · exact ⟨P169, by rw [S169_eq]; exact e⟩
  · cases e
/- (*quietus/fetch.Fetch).Seen -/
def P170 : Pl := .z
def S170 (c : CV) (a0 : AV) (h : AH) : R :=
pBox h 106 (.agg [(.int .i64 (.ofNat 0)), (.int .u64 (.ofNat 0))]) fun v0 h1 =>
pCall c (.fn 168 [] []) [a0] h1 fun v2 h3 =>
pInt .neq v2 (.int .i64 (.ofNat 2)) fun v4 =>
pCond v4 (
pBuild [(.int .i64 (.ofNat 0)), (.int .u64 (.ofNat 0))] [] fun v5 =>
pStore h3 v0 v5 2 fun h6 =>
pLoadN h6 v0 2 fun v7 =>
some (v7, h6)) (
pNil a0 fun v8 =>
pFieldA v8 6 fun v9 =>
pLoad1 h3 v9 fun v10 =>
pNil a0 fun v11 =>
pFieldA v11 9 fun v12 =>
pFieldA v12 0 fun v13 =>
pLoad1 h3 v13 fun v14 =>
pBuild [(.int .i64 (.ofNat 0)), (.int .u64 (.ofNat 0))] [(0, 1, v10), (1, 1, v14)] fun v15 =>
pStore h3 v0 v15 2 fun h16 =>
pLoadN h16 v0 2 fun v17 =>
some (v17, h16))
theorem S170_eq (c : CV) (a0 : AV) (h : AH) : enterK Tryz.prog NN P170 c 170 [a0] h = S170 c a0 h := by kernel_rfl
def W170 (c : CV) (l : List AV) (h : AH) : R := match l with | [a0] => S170 c a0 h | _ => none
theorem W170_ok : WOk Tryz.prog 170 W170 := by
  intro c l h r e
  unfold W170 at e
  split at e
  · exact ⟨P170, by rw [S170_eq]; exact e⟩
  · cases e
/- (*quietus/view.View).Know -/
def P171 : Pl := .z
def S171 (c : CV) (a0 a1 a2 : AV) (h : AH) : R :=
pCall c (.fn 192 [] []) [a0, a1] h fun v0 h1 =>
pUn .not v0 fun v2 =>
pCond v2 (
some ((.int .i64 (.ofNat 2)), h1)) (
pNil a0 fun v3 =>
pFieldA v3 0 fun v4 =>
pLoad1 h1 v4 fun v5 =>
pIdxS v5 a1 2 fun v6 =>
pLoadN h1 v6 2 fun v7 =>
pBox h1 208 (.agg [(.int .u64 (.ofNat 0)), (.bool false)]) fun v8 h9 =>
pStore h9 v8 v7 2 fun h10 =>
pFieldA v8 1 fun v11 =>
pLoad1 h10 v11 fun v12 =>
pCond v12 (
pFieldA v8 0 fun v13 =>
pLoad1 h10 v13 fun v14 =>
pInt .neq v14 a2 fun v15 =>
pCond v15 (
some ((.int .i64 (.ofNat 14)), h10)) (
some ((.int .i64 (.ofNat 0)), h10))) (
pNil a0 fun v16 =>
pFieldA v16 0 fun v17 =>
pLoad1 h10 v17 fun v18 =>
pBuild [(.int .u64 (.ofNat 0)), (.bool false)] [(0, 1, a2), (1, 1, (.bool true))] fun v19 =>
pIdxS v18 a1 2 fun v20 =>
pStore h10 v20 v19 2 fun h21 =>
pNil a0 fun v22 =>
pFieldA v22 1 fun v23 =>
pLoad1 h21 v23 fun v24 =>
pBuildS h21 3 [(.int .i64 (.ofNat 0))] 1 [(0, 1, a1)] fun v25 h26 =>
pAppend h26 3 1 v24 v25 fun v27 h28 =>
pNil a0 fun v29 =>
pFieldA v29 1 fun v30 =>
pStore h28 v30 v27 1 fun h31 =>
some ((.int .i64 (.ofNat 0)), h31)))
theorem S171_eq (c : CV) (a0 a1 a2 : AV) (h : AH) : enterK Tryz.prog NN P171 c 171 [a0, a1, a2] h = S171 c a0 a1 a2 h := by kernel_rfl
def W171 (c : CV) (l : List AV) (h : AH) : R := match l with | [a0, a1, a2] => S171 c a0 a1 a2 h | _ => none
theorem W171_ok : WOk Tryz.prog 171 W171 := by
  intro c l h r e
  unfold W171 at e
  split at e
  · exact ⟨P171, by rw [S171_eq]; exact e⟩
  · cases e
/- (*quietus/fetch.Fetch).Word -/
def P172 : Pl := .z
def S172 (c : CV) (a0 : AV) (h : AH) : R :=
pCall c (.fn 168 [] []) [a0] h fun v0 h1 =>
pInt .neq v0 (.int .i64 (.ofNat 2)) fun v2 =>
pCond v2 (
some ((.int .u64 (.ofNat 0)), h1)) (
pNil a0 fun v3 =>
pFieldA v3 12 fun v4 =>
pLoad1 h1 v4 fun v5 =>
some (v5, h1))
theorem S172_eq (c : CV) (a0 : AV) (h : AH) : enterK Tryz.prog NN P172 c 172 [a0] h = S172 c a0 h := by kernel_rfl
def W172 (c : CV) (l : List AV) (h : AH) : R := match l with | [a0] => S172 c a0 h | _ => none
theorem W172_ok : WOk Tryz.prog 172 W172 := by
  intro c l h r e
  unfold W172 at e
  split at e
  · exact ⟨P172, by rw [S172_eq]; exact e⟩
  · cases e
/- (*quietus/extend.Extend).End -/
def P173 : Pl := .z
def S173 (c : CV) (a0 : AV) (h : AH) : R :=
pNil a0 fun v0 =>
pFieldA v0 0 fun v1 =>
pCall c (.fn 122 [] []) [v1] h fun v2 h3 =>
some (v2, h3)
theorem S173_eq (c : CV) (a0 : AV) (h : AH) : enterK Tryz.prog NN P173 c 173 [a0] h = S173 c a0 h := by kernel_rfl
def W173 (c : CV) (l : List AV) (h : AH) : R := match l with | [a0] => S173 c a0 h | _ => none
theorem W173_ok : WOk Tryz.prog 173 W173 := by
  intro c l h r e
  unfold W173 at e
  split at e
  · exact ⟨P173, by rw [S173_eq]; exact e⟩
  · cases e
/- (*quietus/patience.Patience).Err -/
def P174 : Pl := .z
def S174 (_ : CV) (a0 : AV) (h : AH) : R :=
pNil a0 fun v0 =>
pFieldA v0 4 fun v1 =>
pLoad1 h v1 fun v2 =>
some (v2, h)
theorem S174_eq (c : CV) (a0 : AV) (h : AH) : enterK Tryz.prog NN P174 c 174 [a0] h = S174 c a0 h := by kernel_rfl
def W174 (c : CV) (l : List AV) (h : AH) : R := match l with | [a0] => S174 c a0 h | _ => none
theorem W174_ok : WOk Tryz.prog 174 W174 := by
  intro c l h r e
  unfold W174 at e
  split at e
  · exact ⟨P174, by rw [S174_eq]; exact e⟩
  · cases e
/- slices.Clone[[]any,any] -/
def P175 : Pl := .z
def S175 (_ : CV) (a0 : AV) (h : AH) : R :=
pEq .slc false a0 .nils fun v0 =>
pCond v0 (
some (.nils, h)) (
pBuildS h 20 [.nili] 0 [] fun v1 h2 =>
pAppend h2 20 1 v1 a0 fun v3 h4 =>
some (v3, h4))
theorem S175_eq (c : CV) (a0 : AV) (h : AH) : enterK Tryz.prog NN P175 c 175 [a0] h = S175 c a0 h := by kernel_rfl
def W175 (c : CV) (l : List AV) (h : AH) : R := match l with | [a0] => S175 c a0 h | _ => none
theorem W175_ok : WOk Tryz.prog 175 W175 := by
  intro c l h r e
  unfold W175 at e
  split at e
  · exact ⟨P175, by rw [S175_eq]; exact e⟩
  · cases e
/- strconv.FormatUint -/
def P176 : Pl := .z
def S176 (c : CV) (a0 a1 : AV) (h : AH) : R :=
pCall c (.fn 200 [] []) [a0, a1] h fun v0 h1 =>
some (v0, h1)
theorem S176_eq (c : CV) (a0 a1 : AV) (h : AH) : enterK Tryz.prog NN P176 c 176 [a0, a1] h = S176 c a0 a1 h := by kernel_rfl
def W176 (c : CV) (l : List AV) (h : AH) : R := match l with | [a0, a1] => S176 c a0 a1 h | _ => none
theorem W176_ok : WOk Tryz.prog 176 W176 := by
  intro c l h r e
  unfold W176 at e
  split at e
  · exact ⟨P176, by rw [S176_eq]; exact e⟩
  · cases e
/- (*strings.Builder).Grow -/
def P177 : Pl := (.n none .z (.n (some [1, 0]) .z (.n none (.r [[21, 1, 0]]) .z)))
def S177 (c : CV) (a0 a1 : AV) (h : AH) : R :=
pCall c (.fn 201 [] []) [a0] h fun _ h1 =>
joinC (α := AV × AV × Unit → AH → List Nat → R) (fun s2 h3 d4 =>
joinC (α := AV × AV × AV × Unit → AH → R) (fun s6 h7 =>
pCond s6.1 (
pCall c (.fn 202 [] []) [s6.2.2.1, s6.2.1] h7 fun _ h10 =>
pLeave d4 h10 fun h11 =>
some ((.tup []), h11)) (
pLeave d4 h7 fun h12 =>
some ((.tup []), h12))) fun _ =>
pNil s2.2.1 fun v13 =>
pFieldA v13 1 fun v14 =>
pLoad1 h3 v14 fun _ =>
none /- op -/) fun j5 =>
pInt .lss a1 (.int .i64 (.ofNat 0)) fun v16 =>
pCond v16 (
none /- op -/) (
j5 (a1, a0, ()) h1 [])
theorem S177_eq (c : CV) (a0 a1 : AV) (h : AH) : enterK Tryz.prog NN P177 c 177 [a0, a1] h = S177 c a0 a1 h := by kernel_rfl
def W177 (c : CV) (l : List AV) (h : AH) : R := match l with | [a0, a1] => S177 c a0 a1 h | _ => none
theorem W177_ok : WOk Tryz.prog 177 W177 := by
  intro c l h r e
  unfold W177 at e
  split at e
  · exact ⟨P177, by rw [S177_eq]; exact e⟩
  · cases e
/- (*strings.Builder).WriteString -/
def P178 : Pl := .z
def S178 (c : CV) (a0 a1 : AV) (h : AH) : R :=
pCall c (.fn 201 [] []) [a0] h fun _ h1 =>
pNil a0 fun v2 =>
pFieldA v2 1 fun v3 =>
pLoad1 h1 v3 fun v4 =>
pAppend h1 5 1 v4 a1 fun v5 h6 =>
pNil a0 fun v7 =>
pFieldA v7 1 fun v8 =>
pStore h6 v8 v5 1 fun h9 =>
pLenStr a1 fun v10 =>
some ((.tup [v10, .nili]), h9)
theorem S178_eq (c : CV) (a0 a1 : AV) (h : AH) : enterK Tryz.prog NN P178 c 178 [a0, a1] h = S178 c a0 a1 h := by kernel_rfl
def W178 (c : CV) (l : List AV) (h : AH) : R := match l with | [a0, a1] => S178 c a0 a1 h | _ => none
theorem W178_ok : WOk Tryz.prog 178 W178 := by
  intro c l h r e
  unfold W178 at e
  split at e
  · exact ⟨P178, by rw [S178_eq]; exact e⟩
  · cases e
/- (*strings.Builder).String -/
def P179 : Pl := (.n none .z (.n none (.r [[2]]) .z))
def S179 (_ : CV) (a0 : AV) (h : AH) : R :=
joinC (α := AV × Unit → AH → R) (fun s0 h1 =>
some (s0.1, h1)) fun _ =>
pNil a0 fun v3 =>
pFieldA v3 1 fun v4 =>
pLoad1 h v4 fun _ =>
none /- op -/
theorem S179_eq (c : CV) (a0 : AV) (h : AH) : enterK Tryz.prog NN P179 c 179 [a0] h = S179 c a0 h := by kernel_rfl
def W179 (c : CV) (l : List AV) (h : AH) : R := match l with | [a0] => S179 c a0 h | _ => none
theorem W179_ok : WOk Tryz.prog 179 W179 := by
  intro c l h r e
  unfold W179 at e
  split at e
  · exact ⟨P179, by rw [S179_eq]; exact e⟩
  · cases e
/- quietus/levels.fresh -/
def P180 : Pl := .z
def S180 (c : CV) (h : AH) : R :=
pCall c (.fn 163 [] []) [(.int .i64 (.ofNat 96))] h fun v0 h1 =>
pBuild [.nilp, .nils] [(0, 1, v0)] fun v2 =>
pBox h1 233 v2 fun v3 h4 =>
some (v3, h4)
theorem S180_eq (c : CV) (h : AH) : enterK Tryz.prog NN P180 c 180 [] h = S180 c h := by kernel_rfl
def W180 (c : CV) (l : List AV) (h : AH) : R := match l with | [] => S180 c h | _ => none
theorem W180_ok : WOk Tryz.prog 180 W180 := by
  intro c l h r e
  unfold W180 at e
  split at e
  · exact ⟨P180, by rw [S180_eq]; exact e⟩
  · cases e
/- quietus/code.May -/
def P181 : Pl := (.n none .z (.n none .z (.n none (.r [[21, 17, 5, 4, 1], [27, 23, 5, 1], [33, 29, 1], [39, 35, 1], [42, 39, 35], [43, 35]]) .z)))
def S181 (c : CV) (a0 : AV) (h : AH) : R :=
pBox h 28 a0 fun v0 h1 =>
pFieldA v0 0 fun v2 =>
pLoad1 h1 v2 fun v3 =>
pCall c (.fn 203 [] []) [v3] h1 fun v4 h5 =>
pExtract v4 0 fun v6 =>
pExtract v4 1 fun v7 =>
pExtract v4 2 fun v8 =>
pBox h5 265 (.agg [(.int .i64 (.ofNat 0)), (.int .i64 (.ofNat 0))]) fun v9 h10 =>
pBox h10 265 (.agg [(.int .i64 (.ofNat 0)), (.int .i64 (.ofNat 0))]) fun v11 h12 =>
pBox h12 265 (.agg [(.int .i64 (.ofNat 0)), (.int .i64 (.ofNat 0))]) fun v13 h14 =>
pStore h14 v9 v6 2 fun h15 =>
pStore h15 v11 v7 2 fun h16 =>
pStore h16 v13 v8 2 fun h17 =>
pFieldA v0 0 fun v18 =>
pLoad1 h17 v18 fun v19 =>
pCall c (.fn 204 [] []) [v19] h17 fun v20 h21 =>
pStr .neq v20 (.str []) fun v22 =>
joinC (α := AV × AV × AV × AV × AV × Unit → AH → R) (fun s23 h24 =>
pPick s23.2.1 s23.1 (.bool false) fun v26 =>
joinC (α := AV × AV × AV × AV × Unit → AH → R) (fun s27 h28 =>
pPick s27.2.1 s27.1 (.bool false) fun v30 =>
joinC (α := AV × AV × AV × Unit → AH → R) (fun s31 h32 =>
pPick s31.2.1 s31.1 (.bool false) fun v34 =>
joinC (α := AV × AV × AV × Unit → AH → R) (fun s35 h36 =>
joinC (α := AV × AV × AV × Unit → AH → R) (fun s38 h39 =>
joinC (α := AV × AV × Unit → AH → R) (fun s41 h42 =>
pPick s41.2.1 s41.1 (.bool false) fun v44 =>
some (v44, h42)) fun j43 =>
pWant s38.2.2.1 true (
pPick s38.2.1 (.bool true) s38.1 fun v45 =>
j43 (v45, s38.2.2.1, ()) h39) (
j43 (.undef, s38.2.2.1, ()) h39)) fun j40 =>
pWant s35.1 false (
pFieldA s35.2.2.1 0 fun v46 =>
pLoad1 h36 v46 fun v47 =>
pInt .eql v47 (.int .i64 (.ofNat 1)) fun v48 =>
j40 (v48, s35.1, s35.2.1, ()) h36) (
j40 (.undef, s35.1, s35.2.1, ()) h36)) fun j37 =>
pWant v34 true (
pFieldA s31.2.2.1 4 fun v49 =>
pLoad1 h32 v49 fun v50 =>
pInt .eql v50 (.int .u64 (.ofNat 0)) fun v51 =>
j37 (v51, v34, s31.2.2.1, ()) h32) (
j37 (.undef, v34, s31.2.2.1, ()) h32)) fun j33 =>
pWant v30 true (
pLoadN h28 s27.2.2.1 2 fun v52 =>
pFieldA s27.2.2.2.1 3 fun v53 =>
pLoad1 h28 v53 fun v54 =>
pCall c (.fn 205 [] []) [v52, v54] h28 fun v55 h56 =>
j33 (v55, v30, s27.2.2.2.1, ()) h56) (
j33 (.undef, v30, s27.2.2.2.1, ()) h28)) fun j29 =>
pWant v26 true (
pLoadN h24 s23.2.2.2.1 2 fun v57 =>
pFieldA s23.2.2.2.2.1 2 fun v58 =>
pLoad1 h24 v58 fun v59 =>
pCall c (.fn 205 [] []) [v57, v59] h24 fun v60 h61 =>
j29 (v60, v26, s23.2.2.1, s23.2.2.2.2.1, ()) h61) (
j29 (.undef, v26, s23.2.2.1, s23.2.2.2.2.1, ()) h24)) fun j25 =>
pWant v22 true (
pLoadN h21 v9 2 fun v62 =>
pFieldA v0 1 fun v63 =>
pLoad1 h21 v63 fun v64 =>
pCall c (.fn 205 [] []) [v62, v64] h21 fun v65 h66 =>
j25 (v65, v22, v13, v11, v0, ()) h66) (
j25 (.undef, v22, v13, v11, v0, ()) h21)
theorem S181_eq (c : CV) (a0 : AV) (h : AH) : enterK Tryz.prog NN P181 c 181 [a0] h = S181 c a0 h := by kernel_rfl
def W181 (c : CV) (l : List AV) (h : AH) : R := match l with | [a0] => S181 c a0 h | _ => none
theorem W181_ok : WOk Tryz.prog 181 W181 := by
  intro c l h r e
  unfold W181 at e
  split at e
  · exact ⟨P181, by rw [S181_eq]; exact e⟩
  · cases e
/- (quietus/check.stack).op -/
def P182 : Pl := (.n none .z (.n none .z (.n none (.r [[4]]) .z)))
def S182 (c : CV) (a0 a1 : AV) (h : AH) : R :=
pBox h 31 a1 fun v0 h1 =>
pLenS a0 fun v2 =>
pInt .eql v2 (.int .i64 (.ofNat 0)) fun v3 =>
pCond v3 (
some ((.int .i64 (.ofNat 0)), h1)) (
joinC (α := AV × Unit → AH → R) (fun s4 h5 =>
some (s4.1, h5)) fun j6 =>
pFieldA v0 0 fun v7 =>
pLoad1 h1 v7 fun v8 =>
pCall c (.fn 152 [] []) [a0] h1 fun v9 h10 =>
pIdxS v8 v9 5 fun v11 =>
pFieldA v11 0 fun v12 =>
pLoad1 h10 v12 fun v13 =>
pChk v7 none v8 h1 h10 h1.nx <|
j6 (v13, ()) h10)
theorem S182_eq (c : CV) (a0 a1 : AV) (h : AH) : enterK Tryz.prog NN P182 c 182 [a0, a1] h = S182 c a0 a1 h := by kernel_rfl
def W182 (c : CV) (l : List AV) (h : AH) : R := match l with | [a0, a1] => S182 c a0 a1 h | _ => none
theorem W182_ok : WOk Tryz.prog 182 W182 := by
  intro c l h r e
  unfold W182 at e
  split at e
  · exact ⟨P182, by rw [S182_eq]; exact e⟩
  · cases e
/- quietus/check.begins -/
def P183 : Pl := (.n none .z (.n none (.r [[7, 5]]) .z))
def S183 (_ : CV) (a0 : AV) (h : AH) : R :=
pInt .eql a0 (.int .i64 (.ofNat 14)) fun v0 =>
joinC (α := AV × AV × Unit → AH → R) (fun s1 h2 =>
pPick s1.2.1 (.bool true) s1.1 fun v4 =>
some (v4, h2)) fun j3 =>
pWant v0 false (
pInt .eql a0 (.int .i64 (.ofNat 17)) fun v5 =>
j3 (v5, v0, ()) h) (
j3 (.undef, v0, ()) h)
theorem S183_eq (c : CV) (a0 : AV) (h : AH) : enterK Tryz.prog NN P183 c 183 [a0] h = S183 c a0 h := by kernel_rfl
def W183 (c : CV) (l : List AV) (h : AH) : R := match l with | [a0] => S183 c a0 h | _ => none
theorem W183_ok : WOk Tryz.prog 183 W183 := by
  intro c l h r e
  unfold W183 at e
  split at e
  · exact ⟨P183, by rw [S183_eq]; exact e⟩
  · cases e
/- quietus/code.Jumps -/
def P184 : Pl := (.n none .z (.n none (.r [[7, 5]]) .z))
def S184 (_ : CV) (a0 : AV) (h : AH) : R :=
pInt .eql a0 (.int .i64 (.ofNat 12)) fun v0 =>
joinC (α := AV × AV × Unit → AH → R) (fun s1 h2 =>
pPick s1.2.1 (.bool true) s1.1 fun v4 =>
some (v4, h2)) fun j3 =>
pWant v0 false (
pInt .eql a0 (.int .i64 (.ofNat 13)) fun v5 =>
j3 (v5, v0, ()) h) (
j3 (.undef, v0, ()) h)
theorem S184_eq (c : CV) (a0 : AV) (h : AH) : enterK Tryz.prog NN P184 c 184 [a0] h = S184 c a0 h := by kernel_rfl
def W184 (c : CV) (l : List AV) (h : AH) : R := match l with | [a0] => S184 c a0 h | _ => none
theorem W184_ok : WOk Tryz.prog 184 W184 := by
  intro c l h r e
  unfold W184 at e
  split at e
  · exact ⟨P184, by rw [S184_eq]; exact e⟩
  · cases e
/- quietus/interp.truth -/
def P185 : Pl := .z
def S185 (_ : CV) (a0 : AV) (h : AH) : R :=
pCond a0 (
some ((.int .u64 (.ofNat 1)), h)) (
some ((.int .u64 (.ofNat 0)), h))
theorem S185_eq (c : CV) (a0 : AV) (h : AH) : enterK Tryz.prog NN P185 c 185 [a0] h = S185 c a0 h := by kernel_rfl
def W185 (c : CV) (l : List AV) (h : AH) : R := match l with | [a0] => S185 c a0 h | _ => none
theorem W185_ok : WOk Tryz.prog 185 W185 := by
  intro c l h r e
  unfold W185 at e
  split at e
  · exact ⟨P185, by rw [S185_eq]; exact e⟩
  · cases e
/- (*quietus/slate.Slate).AddNum -/
def P186 : Pl := .z
def S186 (c : CV) (a0 a1 : AV) (h : AH) : R :=
pCall c (.fn 206 [] []) [a0, (.iface 22 a1)] h fun v0 h1 =>
some (v0, h1)
theorem S186_eq (c : CV) (a0 a1 : AV) (h : AH) : enterK Tryz.prog NN P186 c 186 [a0, a1] h = S186 c a0 a1 h := by kernel_rfl
def W186 (c : CV) (l : List AV) (h : AH) : R := match l with | [a0, a1] => S186 c a0 a1 h | _ => none
theorem W186_ok : WOk Tryz.prog 186 W186 := by
  intro c l h r e
  unfold W186 at e
  split at e
  · exact ⟨P186, by rw [S186_eq]; exact e⟩
  · cases e
end
end Go.Proofs.YthkhbmdpmdkmoaaGreatDoor
