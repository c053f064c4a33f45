/- Printed by a program of mine: the bodies of the program's functions aa terms of the primitives of the abstract executor, each shown equal by the kernel. -/
import Derived.Test.YthajhlachmgdoaaProg
import Derived.Test.YthajhlachmgdoaaAe1
import Derived.KernelRfl
namespace Go.Proofs.Ythajhlachmgdoaa
open Go Go.Ae
set_option maxRecDepth 100000
noncomputable section
/- quietus/quietuslaw19.QueueRuns -/
def P3 : Pl := (.n none .z (.n none .z (.n none .z (.n none .z (.n none .z (.n none .z (.n none .z (.n none (.r [[35, 33, 9, 8, 7, 6, 5, 4], [39, 37, 9, 8, 7, 6, 5], [42, 41, 9, 8, 7, 6], [46, 44, 9, 8, 7], [50, 48, 9, 7], [55, 52, 9, 7], [61, 57, 9], [65, 63]]) .z))))))))
def S3 (c : CV) (h : AH) : R :=
pCall c (.fn 8 [] []) [(.int .i64 (.ofNat 100))] h fun v0 h1 =>
pCall c (.fn 7 [] []) [v0, (.int .i64 (.ofNat 96))] h1 fun v2 h3 =>
pEq .ptr false v2 .nilp fun v4 =>
pCond v4 (
some ((.bool false), h3)) (
pCall c (.fn 9 [] []) [v2, (.int .i64 (.ofNat 6)), (.int .u64 (.ofNat 5))] h3 fun v5 h6 =>
pCall c (.fn 9 [] []) [v2, (.int .i64 (.ofNat 6)), (.int .u64 (.ofNat 3))] h6 fun v7 h8 =>
pCall c (.fn 10 [] []) [v2, (.int .i64 (.ofNat 6))] h8 fun v9 h10 =>
pExtract v9 0 fun v11 =>
pExtract v9 1 fun v12 =>
pExtract v9 2 fun v13 =>
pCall c (.fn 11 [] []) [v2, (.int .i64 (.ofNat 6))] h10 fun v14 h15 =>
pExtract v14 0 fun v16 =>
pExtract v14 1 fun v17 =>
pCall c (.fn 9 [] []) [v2, (.int .i64 (.ofNat 5)), (.int .u64 (.ofNat 5))] h15 fun v18 h19 =>
pInt .eql v5 (.int .i64 (.ofNat 0)) fun v20 =>
joinC (α := AV × AV × AV × AV × AV × AV × AV × AV × Unit → AH → R) (fun s21 h22 =>
pPick s21.2.1 s21.1 (.bool false) fun v24 =>
joinC (α := AV × AV × AV × AV × AV × AV × AV × Unit → AH → R) (fun s25 h26 =>
pPick s25.2.1 s25.1 (.bool false) fun v28 =>
joinC (α := AV × AV × AV × AV × AV × AV × Unit → AH → R) (fun s29 h30 =>
pPick s29.2.1 s29.1 (.bool false) fun v32 =>
joinC (α := AV × AV × AV × AV × AV × Unit → AH → R) (fun s33 h34 =>
pPick s33.2.1 s33.1 (.bool false) fun v36 =>
joinC (α := AV × AV × AV × AV × Unit → AH → R) (fun s37 h38 =>
pPick s37.2.1 s37.1 (.bool false) fun v40 =>
joinC (α := AV × AV × AV × AV × Unit → AH → R) (fun s41 h42 =>
pPick s41.2.1 s41.1 (.bool false) fun v44 =>
joinC (α := AV × AV × AV × Unit → AH → R) (fun s45 h46 =>
pPick s45.2.1 s45.1 (.bool false) fun v48 =>
joinC (α := AV × AV × Unit → AH → R) (fun s49 h50 =>
pPick s49.2.1 s49.1 (.bool false) fun v52 =>
some (v52, h50)) fun j51 =>
pWant v48 true (
pInt .eql s45.2.2.1 (.int .i64 (.ofNat 2)) fun v53 =>
j51 (v53, v48, ()) h46) (
j51 (.undef, v48, ()) h46)) fun j47 =>
pWant v44 true (
pIdxS s41.2.2.2.1 (.int .i64 (.ofNat 0)) 1 fun v54 =>
pLoad1 h42 v54 fun v55 =>
pInt .eql v55 (.int .u64 (.ofNat 3)) fun v56 =>
j47 (v56, v44, s41.2.2.1, ()) h42) (
j47 (.undef, v44, s41.2.2.1, ()) h42)) fun j43 =>
pWant v40 true (
pLenS s37.2.2.2.1 fun v57 =>
pInt .eql v57 (.int .i64 (.ofNat 1)) fun v58 =>
j43 (v58, v40, s37.2.2.1, s37.2.2.2.1, ()) h38) (
j43 (.undef, v40, s37.2.2.1, s37.2.2.2.1, ()) h38)) fun j39 =>
pWant v36 true (
pInt .eql s33.2.2.2.1 (.int .i64 (.ofNat 0)) fun v59 =>
j39 (v59, v36, s33.2.2.1, s33.2.2.2.2.1, ()) h34) (
j39 (.undef, v36, s33.2.2.1, s33.2.2.2.2.1, ()) h34)) fun j35 =>
pWant v32 true (
pInt .eql s29.2.2.2.2.2.1 (.int .i64 (.ofNat 0)) fun v60 =>
j35 (v60, v32, s29.2.2.1, s29.2.2.2.1, s29.2.2.2.2.1, ()) h30) (
j35 (.undef, v32, s29.2.2.1, s29.2.2.2.1, s29.2.2.2.2.1, ()) h30)) fun j31 =>
pWant v28 true (
j31 (s25.2.2.2.2.2.2.1, v28, s25.2.2.1, s25.2.2.2.1, s25.2.2.2.2.1, s25.2.2.2.2.2.1, ()) h26) (
j31 (.undef, v28, s25.2.2.1, s25.2.2.2.1, s25.2.2.2.2.1, s25.2.2.2.2.2.1, ()) h26)) fun j27 =>
pWant v24 true (
pInt .eql s21.2.2.2.2.2.2.2.1 (.int .u64 (.ofNat 5)) fun v61 =>
j27 (v61, v24, s21.2.2.1, s21.2.2.2.1, s21.2.2.2.2.1, s21.2.2.2.2.2.1, s21.2.2.2.2.2.2.1, ()) h22) (
j27 (.undef, v24, s21.2.2.1, s21.2.2.2.1, s21.2.2.2.2.1, s21.2.2.2.2.2.1, s21.2.2.2.2.2.2.1, ()) h22)) fun j23 =>
pWant v20 true (
pInt .eql v7 (.int .i64 (.ofNat 0)) fun v62 =>
j23 (v62, v20, v18, v17, v16, v13, v12, v11, ()) h19) (
j23 (.undef, v20, v18, v17, v16, v13, v12, v11, ()) h19))
theorem S3_eq (c : CV) (h : AH) : enterK Try.prog NN P3 c 3 [] h = S3 c h := by kernel_rfl
def W3 (c : CV) (l : List AV) (h : AH) : R := match l with | [] => S3 c h | _ => none
theorem W3_ok : WOk Try.prog 3 W3 := by
  intro c l h r e
  unfold W3 at e
  split at e
  · exact ⟨P3, by rw [S3_eq]; exact e⟩
  · cases e
/- quietus/quietuslaw19.QueueNeeds -/
def P4 : Pl := (.n none .z (.n none .z (.n none .z (.n none .z (.n none (.n none .z (.n none (.n (some [7, 6, 5, 3, 0]) (.n none (.n none (.r [[30, 28, 7, 6, 5, 3, 0]]) .z) .z) .z) .z)) (.n none .z (.n none .z (.n none .z (.n none (.n none (.r [[62, 60, 12, 11, 10, 5, 3]]) .z) (.n none .z (.n none (.n none .z (.n none (.n (some [15, 14, 13, 12, 11, 10, 5, 3]) (.n none .z (.n none (.n none (.n none .z (.n none (.n none .z (.n none (.n none (.r [[90, 87, 12, 11], [97, 92, 12, 11], [104, 99, 11], [109, 106]]) .z) .z)) (.n none .z (.n none (.r [[119, 115, 18, 15, 14, 13, 12, 11, 10, 5, 3], [125, 121, 18, 15, 14, 13, 12, 11, 10, 5, 3], [131, 127, 18, 15, 14, 13, 12, 11, 10, 5, 3], [136, 133, 18, 15, 14, 13, 12, 11, 10, 5, 3], [146, 138, 15, 14, 13, 12, 11, 10, 5, 3], [154, 148, 15, 14, 13, 12, 11, 10, 5, 3]]) .z)))) .z) .z)) .z) .z)) .z)))))))))))
def S4 (c : CV) (a0 a1 : AV) (h : AH) : R :=
pBox h 36 a1 fun v0 h1 =>
pCall c (.fn 3 [] []) [] h1 fun v2 h3 =>
pUn .not v2 fun v4 =>
pCond v4 (
some ((.bool false), h3)) (
pCall c (.fn 8 [] []) [(.int .i64 (.ofNat 256))] h3 fun v5 h6 =>
pBuild [.nils, .nils, .nils, .nils, .nils, .nils, .nils, .nils] [] fun v7 =>
pBox h6 41 v7 fun v8 h9 =>
loopC (σ := AV × AV × AV × AV × AV × Unit) NN (fun i13 s10 h11 d12 =>
pLenS s10.2.2.2.2.1 fun v14 =>
pInt .lss s10.1 v14 fun v15 =>
joinC (α := AV × AV × AV × AV × AV × AV × AV × Unit → AH → R) (fun s16 h17 =>
pPick s16.2.1 s16.1 (.bool false) fun v19 =>
pCond v19 (
pIdxS s16.2.2.2.2.2.2.1 s16.2.2.1 4 fun v20 =>
pLoadN h17 v20 4 fun v21 =>
pCall c (.fn 13 [] []) [v21] h17 fun v22 h23 =>
pCall c (.fn 12 [] []) [s16.2.2.2.2.1, s16.2.2.2.1, v22] h23 fun v24 h25 =>
pExtract v24 0 fun v26 =>
pExtract v24 1 fun v27 =>
pUn .not v27 fun v28 =>
pCond v28 (
pLeave d12 h25 fun h29 =>
some ((.bool false), h29)) (
pInt .add s16.2.2.1 (.int .i64 (.ofNat 1)) fun v30 =>
i13 (v30, s16.2.2.2.1, v26, s16.2.2.2.2.2.1, s16.2.2.2.2.2.2.1, ()) h25 d12)) (
pLoadN h17 s16.2.2.2.2.2.1 4 fun v31 =>
pCall c (.fn 13 [] []) [v31] h17 fun v32 h33 =>
pStore h33 s16.2.2.2.2.2.1 v32 4 fun h34 =>
pLoadN h34 s16.2.2.2.2.2.1 4 fun v35 =>
pCall c (.fn 14 [] []) [v35] h34 fun v36 h37 =>
pInt .add (.int .i64 (.ofNat 6)) v36 fun v38 =>
pLenS s16.2.2.2.2.1 fun v39 =>
pCall c (.fn 15 [] []) [v39, (.int .i64 (.ofNat 96))] h37 fun v40 h41 =>
pCall c (.fn 7 [] []) [s16.2.2.2.2.1, (.int .i64 (.ofNat 96))] h41 fun v42 h43 =>
pEq .ptr false v40 .nilp fun v44 =>
joinC (α := AV × AV × AV × AV × AV × AV × AV × Unit → AH → R) (fun s45 h46 =>
pPick s45.2.1 (.bool true) s45.1 fun v48 =>
pCond v48 (
pLeave d12 h46 fun h49 =>
some ((.bool false), h49)) (
pLoadN h46 s45.2.2.2.2.2.2.1 4 fun v50 =>
pCall c (.fn 16 [] []) [s45.2.2.1, s45.2.2.2.2.1, v50] h46 fun v51 h52 =>
pExtract v51 0 fun v53 =>
pExtract v51 1 fun v54 =>
pBox h52 48 (.agg [(.int .i64 (.ofNat 0)), (.int .u64 (.ofNat 0))]) fun v55 h56 =>
pStore h56 v55 v53 2 fun h57 =>
loopC (σ := AV × AV × AV × AV × AV × AV × AV × AV × Unit) NN (fun i61 s58 h59 d60 =>
pInt .lss s58.1 (.int .i64 (.ofNat 256)) fun v62 =>
pCond v62 (
pLoadN h59 s58.2.2.2.2.2.2.2.1 4 fun v63 =>
pCall c (.fn 16 [] []) [s58.2.2.2.2.1, s58.2.2.2.2.2.1, v63] h59 fun v64 h65 =>
pExtract v64 0 fun v66 =>
pExtract v64 1 fun v67 =>
pBox h65 48 (.agg [(.int .i64 (.ofNat 0)), (.int .u64 (.ofNat 0))]) fun v68 h69 =>
pStore h69 v68 v66 2 fun h70 =>
pInt .neq v67 (.int .i64 (.ofNat 11)) fun v71 =>
pCond v71 (
pLoadN h70 v68 2 fun v72 =>
pLoadN h70 s58.2.2.1 2 fun v73 =>
pEqS [.bas .int 0, .bas .int 1] false v72 v73 fun v74 =>
joinC (α := AV × AV × AV × AV × Unit → AH → R) (fun s75 h76 =>
pPick s75.2.1 s75.1 (.bool false) fun v78 =>
joinC (α := AV × AV × AV × AV × Unit → AH → R) (fun s79 h80 =>
pPick s79.2.1 s79.1 (.bool false) fun v82 =>
joinC (α := AV × AV × AV × Unit → AH → R) (fun s83 h84 =>
pPick s83.2.1 s83.1 (.bool false) fun v86 =>
joinC (α := AV × AV × Unit → AH → R) (fun s87 h88 =>
pPick s87.2.1 s87.1 (.bool false) fun v90 =>
pLeave d60 h88 fun h91 =>
some (v90, h91)) fun j89 =>
pWant v86 true (
pCall c (.fn 21 [] []) [s83.2.2.1] h84 fun v92 h93 =>
pInt .eql v92 (.int .i64 (.ofNat 1)) fun v94 =>
j89 (v94, v86, ()) h93) (
j89 (.undef, v86, ()) h84)) fun j85 =>
pWant v82 true (
pCall c (.fn 20 [] []) [s79.2.2.2.1] h80 fun v95 h96 =>
pCall c (.fn 20 [] []) [s79.2.2.1] h96 fun v97 h98 =>
pCall c (.fn 19 [] []) [v95, v97] h98 fun v99 h100 =>
j85 (v99, v82, s79.2.2.2.1, ()) h100) (
j85 (.undef, v82, s79.2.2.2.1, ()) h80)) fun j81 =>
pWant v78 true (
pCall c (.fn 18 [] []) [s75.2.2.2.1] h76 fun v101 h102 =>
pCall c (.fn 18 [] []) [s75.2.2.1] h102 fun v103 h104 =>
pCall c (.fn 17 [] []) [v101, v103] h104 fun v105 h106 =>
j81 (v105, v78, s75.2.2.1, s75.2.2.2.1, ()) h106) (
j81 (.undef, v78, s75.2.2.1, s75.2.2.2.1, ()) h76)) fun j77 =>
pWant v74 true (
pInt .eql v67 s58.2.1 fun v107 =>
j77 (v107, v74, s58.2.2.2.1, s58.2.2.2.2.1, ()) h70) (
j77 (.undef, v74, s58.2.2.2.1, s58.2.2.2.2.1, ()) h70)) (
pCall c (.fn 22 [] []) [s58.2.2.2.2.1] h70 fun v108 h109 =>
pInt .lss v108 (.int .i64 (.ofNat 1)) fun v110 =>
joinC (α := AV × AV × AV × AV × AV × AV × AV × AV × AV × AV × AV × Unit → AH → R) (fun s111 h112 =>
pPick s111.2.1 (.bool true) s111.1 fun v114 =>
joinC (α := AV × AV × AV × AV × AV × AV × AV × AV × AV × AV × AV × Unit → AH → R) (fun s115 h116 =>
pPick s115.2.1 (.bool true) s115.1 fun v118 =>
joinC (α := AV × AV × AV × AV × AV × AV × AV × AV × AV × AV × AV × Unit → AH → R) (fun s119 h120 =>
pPick s119.2.1 (.bool true) s119.1 fun v122 =>
joinC (α := AV × AV × AV × AV × AV × AV × AV × AV × AV × AV × AV × Unit → AH → R) (fun s123 h124 =>
pPick s123.2.1 (.bool true) s123.1 fun v126 =>
joinC (α := AV × AV × AV × AV × AV × AV × AV × AV × AV × AV × Unit → AH → R) (fun s127 h128 =>
pPick s127.2.1 (.bool true) s127.1 fun v130 =>
joinC (α := AV × AV × AV × AV × AV × AV × AV × AV × AV × AV × Unit → AH → R) (fun s131 h132 =>
pPick s131.2.1 (.bool true) s131.1 fun v134 =>
pCond v134 (
pLeave d60 h132 fun h135 =>
some ((.bool false), h135)) (
pInt .add s131.2.2.1 (.int .i64 (.ofNat 1)) fun v136 =>
i61 (v136, s131.2.2.2.1, s131.2.2.2.2.1, s131.2.2.2.2.2.1, s131.2.2.2.2.2.2.1, s131.2.2.2.2.2.2.2.1, s131.2.2.2.2.2.2.2.2.1, s131.2.2.2.2.2.2.2.2.2.1, ()) h132 d60)) fun j133 =>
pWant v130 false (
pCall c (.fn 24 [] []) [s127.2.2.2.2.2.2.1] h128 fun v137 h138 =>
pLenS v137 fun v139 =>
pInt .add s127.2.2.1 (.int .i64 (.ofNat 1)) fun v140 =>
pInt .neq v139 v140 fun v141 =>
j133 (v141, v130, s127.2.2.1, s127.2.2.2.1, s127.2.2.2.2.1, s127.2.2.2.2.2.1, s127.2.2.2.2.2.2.1, s127.2.2.2.2.2.2.2.1, s127.2.2.2.2.2.2.2.2.1, s127.2.2.2.2.2.2.2.2.2.1, ()) h138) (
j133 (.undef, v130, s127.2.2.1, s127.2.2.2.1, s127.2.2.2.2.1, s127.2.2.2.2.2.1, s127.2.2.2.2.2.2.1, s127.2.2.2.2.2.2.2.1, s127.2.2.2.2.2.2.2.2.1, s127.2.2.2.2.2.2.2.2.2.1, ()) h128)) fun j129 =>
pWant v126 false (
pIdxS s123.2.2.2.2.2.2.2.2.2.1 s123.2.2.1 1 fun v142 =>
pLoad1 h124 v142 fun v143 =>
pCall c (.fn 23 [] []) [s123.2.2.2.2.2.2.2.1, s123.2.2.1, v143] h124 fun v144 h145 =>
pInt .neq v144 (.int .i64 (.ofNat 0)) fun v146 =>
j129 (v146, v126, s123.2.2.2.1, s123.2.2.2.2.1, s123.2.2.2.2.2.1, s123.2.2.2.2.2.2.1, s123.2.2.2.2.2.2.2.1, s123.2.2.2.2.2.2.2.2.1, s123.2.2.2.2.2.2.2.2.2.1, s123.2.2.2.2.2.2.2.2.2.2.1, ()) h145) (
j129 (.undef, v126, s123.2.2.2.1, s123.2.2.2.2.1, s123.2.2.2.2.2.1, s123.2.2.2.2.2.2.1, s123.2.2.2.2.2.2.2.1, s123.2.2.2.2.2.2.2.2.1, s123.2.2.2.2.2.2.2.2.2.1, s123.2.2.2.2.2.2.2.2.2.2.1, ()) h124)) fun j125 =>
pWant v122 false (
pCall c (.fn 21 [] []) [s119.2.2.2.2.2.2.2.1] h120 fun v147 h148 =>
pInt .neq v147 (.int .i64 (.ofNat 1)) fun v149 =>
j125 (v149, v122, s119.2.2.1, s119.2.2.2.1, s119.2.2.2.2.1, s119.2.2.2.2.2.1, s119.2.2.2.2.2.2.1, s119.2.2.2.2.2.2.2.1, s119.2.2.2.2.2.2.2.2.1, s119.2.2.2.2.2.2.2.2.2.1, s119.2.2.2.2.2.2.2.2.2.2.1, ()) h148) (
j125 (.undef, v122, s119.2.2.1, s119.2.2.2.1, s119.2.2.2.2.1, s119.2.2.2.2.2.1, s119.2.2.2.2.2.2.1, s119.2.2.2.2.2.2.2.1, s119.2.2.2.2.2.2.2.2.1, s119.2.2.2.2.2.2.2.2.2.1, s119.2.2.2.2.2.2.2.2.2.2.1, ()) h120)) fun j121 =>
pWant v118 false (
pCall c (.fn 20 [] []) [s115.2.2.2.2.2.2.2.1] h116 fun v150 h151 =>
pLenS v150 fun v152 =>
pInt .neq v152 (.int .i64 (.ofNat 0)) fun v153 =>
j121 (v153, v118, s115.2.2.1, s115.2.2.2.1, s115.2.2.2.2.1, s115.2.2.2.2.2.1, s115.2.2.2.2.2.2.1, s115.2.2.2.2.2.2.2.1, s115.2.2.2.2.2.2.2.2.1, s115.2.2.2.2.2.2.2.2.2.1, s115.2.2.2.2.2.2.2.2.2.2.1, ()) h151) (
j121 (.undef, v118, s115.2.2.1, s115.2.2.2.1, s115.2.2.2.2.1, s115.2.2.2.2.2.1, s115.2.2.2.2.2.2.1, s115.2.2.2.2.2.2.2.1, s115.2.2.2.2.2.2.2.2.1, s115.2.2.2.2.2.2.2.2.2.1, s115.2.2.2.2.2.2.2.2.2.2.1, ()) h116)) fun j117 =>
pWant v114 false (
pCall c (.fn 18 [] []) [s111.2.2.2.2.2.2.2.1] h112 fun v154 h155 =>
pLenS v154 fun v156 =>
pInt .neq v156 (.int .i64 (.ofNat 0)) fun v157 =>
j117 (v157, v114, s111.2.2.1, s111.2.2.2.1, s111.2.2.2.2.1, s111.2.2.2.2.2.1, s111.2.2.2.2.2.2.1, s111.2.2.2.2.2.2.2.1, s111.2.2.2.2.2.2.2.2.1, s111.2.2.2.2.2.2.2.2.2.1, s111.2.2.2.2.2.2.2.2.2.2.1, ()) h155) (
j117 (.undef, v114, s111.2.2.1, s111.2.2.2.1, s111.2.2.2.2.1, s111.2.2.2.2.2.1, s111.2.2.2.2.2.2.1, s111.2.2.2.2.2.2.2.1, s111.2.2.2.2.2.2.2.2.1, s111.2.2.2.2.2.2.2.2.2.1, s111.2.2.2.2.2.2.2.2.2.2.1, ()) h112)) fun j113 =>
pWant v110 false (
pLenS s58.2.2.2.2.2.2.1 fun v158 =>
pInt .geq v108 v158 fun v159 =>
j113 (v159, v110, v108, s58.1, s58.2.1, s58.2.2.1, s58.2.2.2.1, s58.2.2.2.2.1, s58.2.2.2.2.2.1, s58.2.2.2.2.2.2.1, s58.2.2.2.2.2.2.2.1, ()) h109) (
j113 (.undef, v110, v108, s58.1, s58.2.1, s58.2.2.1, s58.2.2.2.1, s58.2.2.2.2.1, s58.2.2.2.2.2.1, s58.2.2.2.2.2.2.1, s58.2.2.2.2.2.2.2.1, ()) h109))) (
pLeave d60 h59 fun h160 =>
some ((.bool false), h160))) ((.int .i64 (.ofNat 0)), v54, v55, s45.2.2.1, s45.2.2.2.1, s45.2.2.2.2.1, s45.2.2.2.2.2.1, s45.2.2.2.2.2.2.1, ()) h57 d12)) fun j47 =>
pWant v44 false (
pEq .ptr false v42 .nilp fun v161 =>
j47 (v161, v44, v42, v40, v38, s16.2.2.2.2.1, s16.2.2.2.2.2.1, ()) h43) (
j47 (.undef, v44, v42, v40, v38, s16.2.2.2.2.1, s16.2.2.2.2.2.1, ()) h43))) fun j18 =>
pWant v15 true (
pInt .lss s10.1 (.int .i64 (.ofNat 20)) fun v162 =>
j18 (v162, v15, s10.1, s10.2.1, s10.2.2.1, s10.2.2.2.1, s10.2.2.2.2.1, ()) h11) (
j18 (.undef, v15, s10.1, s10.2.1, s10.2.2.1, s10.2.2.2.1, s10.2.2.2.2.1, ()) h11)) ((.int .i64 (.ofNat 0)), v8, v5, v0, a0, ()) h9 [])
theorem S4_eq (c : CV) (a0 a1 : AV) (h : AH) : enterK Try.prog NN P4 c 4 [a0, a1] h = S4 c a0 a1 h := by kernel_rfl
def W4 (c : CV) (l : List AV) (h : AH) : R := match l with | [a0, a1] => S4 c a0 a1 h | _ => none
theorem W4_ok : WOk Try.prog 4 W4 := by
  intro c l h r e
  unfold W4 at e
  split at e
  · exact ⟨P4, by rw [S4_eq]; exact e⟩
  · cases e
/- quietus/quietuslaw19.QueueApart -/
def P5 : Pl := (.n none .z (.n none .z (.n none .z (.n none .z (.n none .z (.n none (.n none .z (.n none (.n (some [10, 9, 8, 7, 5, 1, 0]) (.n none (.n none (.r [[41, 39, 10, 9, 8, 7, 5, 1, 0]]) .z) (.n none (.n none (.n none .z (.n (some [11, 10, 9, 8, 7, 5, 1, 0]) .z (.n none .z (.n none .z (.n none .z (.n none .z (.n none .z (.n none .z (.n none (.n (some [16, 14, 10, 9, 8, 7, 5, 1, 0]) (.n none (.n none (.r [[90, 86, 16, 14, 10, 9, 8, 7, 5, 1, 0]]) .z) (.n none (.n none (.n none .z (.n none (.n (some [17, 16, 14, 10, 9, 8, 7, 5, 1, 0]) (.n none (.n none (.r [[118, 17, 16, 14, 10, 9, 8, 7, 5, 1, 0]]) .z) .z) .z) .z)) .z) .z)) .z) .z))))))))) .z) .z)) .z) .z)) (.n none .z (.n none .z (.n none .z (.n none .z (.n none .z (.n none .z (.n none (.n none .z (.n (some [19, 9]) (.n (some [20, 19, 18, 9, 7, 5]) (.n none .z (.n none (.n none (.n none .z (.n none .z (.n none .z (.n none (.r [[165, 161, 23, 20, 19, 18, 9, 7, 5], [171, 167, 23, 20, 19, 18, 9, 7, 5], [181, 173, 20, 19, 18, 9, 7, 5]]) .z)))) .z) .z)) .z) .z)) (.n none .z (.n none (.n none .z (.n none (.n (some [25, 24, 9]) (.n none .z (.n none (.n none (.n none (.r [[205, 197, 25, 24, 9], [215, 207, 25, 24, 9]]) .z) .z) .z)) .z) .z)) .z)))))))))))))))
def S5 (c : CV) (a0 a1 a2 : AV) (h : AH) : R :=
pBox h 36 a2 fun v0 h1 =>
pCall c (.fn 3 [] []) [] h1 fun v2 h3 =>
pUn .not v2 fun v4 =>
pCond v4 (
some ((.bool false), h3)) (
pCall c (.fn 8 [] []) [(.int .i64 (.ofNat 256))] h3 fun v5 h6 =>
pBuild [.nils, .nils, .nils, .nils, .nils, .nils, .nils, .nils] [] fun v7 =>
pBox h6 41 v7 fun v8 h9 =>
pMake h9 4 [(.bool false)] (.int .i64 (.ofNat 257)) (.int .i64 (.ofNat 257)) fun v10 h11 =>
loopC (σ := AV × AV × AV × AV × AV × AV × AV × Unit) NN (fun i15 s12 h13 d14 =>
pLenS s12.2.2.2.2.2.2.1 fun v16 =>
pLenS s12.2.2.2.2.2.1 fun v17 =>
pInt .add v16 v17 fun v18 =>
pInt .lss s12.1 v18 fun v19 =>
joinC (α := AV × AV × AV × AV × AV × AV × AV × AV × AV × Unit → AH → R) (fun s20 h21 =>
pPick s20.2.1 s20.1 (.bool false) fun v23 =>
pCond v23 (
pBuild [(.int .i64 (.ofNat 0)), (.int .i64 (.ofNat 0)), (.int .u64 (.ofNat 0)), (.int .u64 (.ofNat 0))] [] fun v24 =>
pBox h21 36 (.agg [(.int .i64 (.ofNat 0)), (.int .i64 (.ofNat 0)), (.int .u64 (.ofNat 0)), (.int .u64 (.ofNat 0))]) fun v25 h26 =>
pStore h26 v25 v24 4 fun h27 =>
joinC (α := AV × AV × AV × AV × AV × AV × AV × AV × Unit → AH → List Nat → R) (fun s28 h29 d30 =>
pLoadN h29 s28.1 4 fun v32 =>
pCall c (.fn 12 [] []) [s28.2.2.2.2.1, s28.2.2.2.1, v32] h29 fun v33 h34 =>
pExtract v33 0 fun v35 =>
pExtract v33 1 fun v36 =>
pUn .not v36 fun v37 =>
pCond v37 (
pLeave d30 h34 fun h38 =>
some ((.bool false), h38)) (
pCall c (.fn 25 [] []) [v35] h34 fun v39 h40 =>
pExtract v39 0 fun v41 =>
pExtract v39 1 fun v42 =>
pInt .neq v42 (.int .i64 (.ofNat 0)) fun v43 =>
pCond v43 (
pLeave d30 h40 fun h44 =>
some ((.bool false), h44)) (
loopC (σ := AV × AV × AV × AV × AV × AV × AV × AV × AV × Unit) NN (fun i48 s45 h46 d47 =>
pLenS s45.2.2.2.2.2.2.2.2.1 fun v49 =>
pInt .lss s45.2.2.1 v49 fun v50 =>
joinC (α := AV × AV × AV × AV × AV × AV × AV × AV × AV × AV × AV × Unit → AH → R) (fun s51 h52 =>
pPick s51.2.1 s51.1 (.bool false) fun v54 =>
pCond v54 (
pIdxS s51.2.2.2.1 s51.2.2.1 3 fun v55 =>
pFieldA v55 0 fun v56 =>
pLoad1 h52 v56 fun v57 =>
loopC (σ := AV × AV × AV × AV × AV × AV × AV × AV × AV × AV × Unit) NN (fun i61 s58 h59 d60 =>
joinC (α := AV × AV × AV × AV × AV × AV × AV × AV × AV × AV × AV × Unit → AH → R) (fun s62 h63 =>
pCond s62.1 (
pIdxS s62.2.2.2.1 s62.2.2.1 3 fun v65 =>
pFieldA v65 2 fun v66 =>
pLoad1 h63 v66 fun v67 =>
pIdxS s62.2.2.2.2.2.1 s62.2.1 1 fun v68 =>
pStore h63 v68 v67 1 fun h69 =>
pInt .add s62.2.1 (.int .i64 (.ofNat 1)) fun v70 =>
i61 (v70, s62.2.2.1, s62.2.2.2.1, s62.2.2.2.2.1, s62.2.2.2.2.2.1, s62.2.2.2.2.2.2.1, s62.2.2.2.2.2.2.2.1, s62.2.2.2.2.2.2.2.2.1, s62.2.2.2.2.2.2.2.2.2.1, s62.2.2.2.2.2.2.2.2.2.2.1, ()) h69 d60) (
pInt .add s62.2.2.1 (.int .i64 (.ofNat 1)) fun v71 =>
i48 (v71, s62.2.2.2.1, s62.2.2.2.2.1, s62.2.2.2.2.2.1, s62.2.2.2.2.2.2.1, s62.2.2.2.2.2.2.2.1, s62.2.2.2.2.2.2.2.2.1, s62.2.2.2.2.2.2.2.2.2.1, s62.2.2.2.2.2.2.2.2.2.2.1, ()) h63 d60)) fun j64 =>
pIdxS s58.2.2.1 s58.2.1 3 fun v72 =>
pFieldA v72 0 fun v73 =>
pLoad1 h59 v73 fun v74 =>
pIdxS s58.2.2.1 s58.2.1 3 fun v75 =>
pFieldA v75 1 fun v76 =>
pLoad1 h59 v76 fun v77 =>
pCall c (.fn 26 [] []) [v77] h59 fun v78 h79 =>
pInt .add v74 v78 fun v80 =>
pInt .lss s58.1 v80 fun v81 =>
pWant v81 true (
pLenS s58.2.2.2.2.1 fun v82 =>
pInt .lss s58.1 v82 fun v83 =>
pPick v81 v83 (.bool false) fun v84 =>
pChk v73 none v74 h59 h79 h59.nx <|
j64 (v84, s58.1, s58.2.1, s58.2.2.1, s58.2.2.2.1, s58.2.2.2.2.1, s58.2.2.2.2.2.1, s58.2.2.2.2.2.2.1, s58.2.2.2.2.2.2.2.1, s58.2.2.2.2.2.2.2.2.1, s58.2.2.2.2.2.2.2.2.2.1, ()) h79) (
pPick v81 .undef (.bool false) fun v85 =>
pChk v73 none v74 h59 h79 h59.nx <|
j64 (v85, s58.1, s58.2.1, s58.2.2.1, s58.2.2.2.1, s58.2.2.2.2.1, s58.2.2.2.2.2.1, s58.2.2.2.2.2.2.1, s58.2.2.2.2.2.2.2.1, s58.2.2.2.2.2.2.2.2.1, s58.2.2.2.2.2.2.2.2.2.1, ()) h79)) (v57, s51.2.2.1, s51.2.2.2.1, s51.2.2.2.2.1, s51.2.2.2.2.2.1, s51.2.2.2.2.2.2.1, s51.2.2.2.2.2.2.2.1, s51.2.2.2.2.2.2.2.2.1, s51.2.2.2.2.2.2.2.2.2.1, s51.2.2.2.2.2.2.2.2.2.2.1, ()) h52 d47) (
pInt .add s51.2.2.2.2.1 (.int .i64 (.ofNat 1)) fun v86 =>
i15 (v86, s51.2.2.2.2.2.1, s51.2.2.2.2.2.2.1, s51.2.2.2.2.2.2.2.1, s51.2.2.2.2.2.2.2.2.1, s51.2.2.2.2.2.2.2.2.2.1, s51.2.2.2.2.2.2.2.2.2.2.1, ()) h52 d47)) fun j53 =>
pWant v50 true (
pLenS s45.2.1 fun v87 =>
pInt .lss s45.1 v87 fun v88 =>
j53 (v88, v50, s45.1, s45.2.1, s45.2.2.1, s45.2.2.2.1, s45.2.2.2.2.1, s45.2.2.2.2.2.1, s45.2.2.2.2.2.2.1, s45.2.2.2.2.2.2.2.1, s45.2.2.2.2.2.2.2.2.1, ()) h46) (
j53 (.undef, v50, s45.1, s45.2.1, s45.2.2.1, s45.2.2.2.1, s45.2.2.2.2.1, s45.2.2.2.2.2.1, s45.2.2.2.2.2.2.1, s45.2.2.2.2.2.2.2.1, s45.2.2.2.2.2.2.2.2.1, ()) h46)) ((.int .i64 (.ofNat 0)), v41, s28.2.1, s28.2.2.1, s28.2.2.2.1, v35, s28.2.2.2.2.2.1, s28.2.2.2.2.2.2.1, s28.2.2.2.2.2.2.2.1, ()) h40 d30))) fun j31 =>
pLenS s20.2.2.2.2.2.2.2.2.1 fun v89 =>
pInt .lss s20.2.2.1 v89 fun v90 =>
pCond v90 (
pIdxS s20.2.2.2.2.2.2.2.2.1 s20.2.2.1 4 fun v91 =>
pLoadN h27 v91 4 fun v92 =>
pCall c (.fn 13 [] []) [v92] h27 fun v93 h94 =>
pStore h94 v25 v93 4 fun h95 =>
pFieldA v25 1 fun v96 =>
pStore h95 v96 (.int .i64 (.ofNat 0)) 1 fun h97 =>
j31 (v25, s20.2.2.1, s20.2.2.2.1, s20.2.2.2.2.1, s20.2.2.2.2.2.1, s20.2.2.2.2.2.2.1, s20.2.2.2.2.2.2.2.1, s20.2.2.2.2.2.2.2.2.1, ()) h97 d14) (
pLenS s20.2.2.2.2.2.2.2.2.1 fun v98 =>
pInt .sub s20.2.2.1 v98 fun v99 =>
pIdxS s20.2.2.2.2.2.2.2.1 v99 4 fun v100 =>
pLoadN h27 v100 4 fun v101 =>
pCall c (.fn 13 [] []) [v101] h27 fun v102 h103 =>
pStore h103 v25 v102 4 fun h104 =>
pFieldA v25 1 fun v105 =>
pStore h104 v105 (.int .i64 (.ofNat 1)) 1 fun h106 =>
j31 (v25, s20.2.2.1, s20.2.2.2.1, s20.2.2.2.2.1, s20.2.2.2.2.2.1, s20.2.2.2.2.2.2.1, s20.2.2.2.2.2.2.2.1, s20.2.2.2.2.2.2.2.2.1, ()) h106 d14)) (
pLoadN h21 s20.2.2.2.2.2.2.1 4 fun v107 =>
pCall c (.fn 13 [] []) [v107] h21 fun v108 h109 =>
pStore h109 s20.2.2.2.2.2.2.1 v108 4 fun h110 =>
pFieldA s20.2.2.2.2.2.2.1 1 fun v111 =>
pStore h110 v111 (.int .i64 (.ofNat 1)) 1 fun h112 =>
pLoadN h112 s20.2.2.2.2.2.2.1 4 fun v113 =>
pCall c (.fn 14 [] []) [v113] h112 fun v114 h115 =>
pInt .add (.int .i64 (.ofNat 6)) v114 fun v116 =>
pInt .sub v116 (.int .i64 (.ofNat 1)) fun v117 =>
pIdxS s20.2.2.2.1 v117 1 fun v118 =>
pStore h115 v118 (.bool true) 1 fun h119 =>
pLenS s20.2.2.2.2.2.1 fun v120 =>
pCall c (.fn 15 [] []) [v120, (.int .i64 (.ofNat 96))] h119 fun v121 h122 =>
pEq .ptr false v121 .nilp fun v123 =>
pCond v123 (
pLeave d14 h122 fun h124 =>
some ((.bool false), h124)) (
joinC (α := AV × AV × Unit → AH → List Nat → R) (fun s125 h126 d127 =>
pCall c (.fn 18 [] []) [s125.1] h126 fun v129 h130 =>
loopC (σ := AV × AV × AV × Unit) NN (fun i134 s131 h132 d133 =>
pLenS s131.2.1 fun v135 =>
pInt .lss s131.1 v135 fun v136 =>
pCond v136 (
pIdxS s131.2.1 s131.1 2 fun v137 =>
pFieldA v137 0 fun v138 =>
pLoad1 h132 v138 fun v139 =>
pInt .lss v139 (.int .i64 (.ofNat 1)) fun v140 =>
joinC (α := AV × AV × AV × AV × AV × Unit → AH → R) (fun s141 h142 =>
pPick s141.2.1 (.bool true) s141.1 fun v144 =>
joinC (α := AV × AV × AV × AV × AV × Unit → AH → R) (fun s145 h146 =>
pPick s145.2.1 (.bool true) s145.1 fun v148 =>
pCond v148 (
pLeave d133 h146 fun h149 =>
some ((.bool false), h149)) (
pInt .add s145.2.2.1 (.int .i64 (.ofNat 1)) fun v150 =>
i134 (v150, s145.2.2.2.1, s145.2.2.2.2.1, ()) h146 d133)) fun j147 =>
pWant v144 false (
pIdxS s141.2.2.2.1 s141.2.2.1 2 fun v151 =>
pFieldA v151 0 fun v152 =>
pLoad1 h142 v152 fun v153 =>
pIdxS s141.2.2.2.2.1 v153 1 fun v154 =>
pLoad1 h142 v154 fun v155 =>
j147 (v155, v144, s141.2.2.1, s141.2.2.2.1, s141.2.2.2.2.1, ()) h142) (
j147 (.undef, v144, s141.2.2.1, s141.2.2.2.1, s141.2.2.2.2.1, ()) h142)) fun j143 =>
pWant v140 false (
pIdxS s131.2.1 s131.1 2 fun v156 =>
pFieldA v156 0 fun v157 =>
pLoad1 h132 v157 fun v158 =>
pLenS s131.2.2.1 fun v159 =>
pInt .geq v158 v159 fun v160 =>
j143 (v160, v140, s131.1, s131.2.1, s131.2.2.1, ()) h132) (
j143 (.undef, v140, s131.1, s131.2.1, s131.2.2.1, ()) h132)) (
pLeave d133 h132 fun h161 =>
some ((.bool true), h161))) ((.int .i64 (.ofNat 0)), v129, s125.2.1, ()) h130 d127) fun j128 =>
loopC (σ := AV × AV × AV × AV × AV × AV × Unit) NN (fun i165 s162 h163 d164 =>
pInt .lss s162.1 (.int .i64 (.ofNat 256)) fun v166 =>
pCond v166 (
pLoadN h163 s162.2.2.2.2.2.1 4 fun v167 =>
pCall c (.fn 16 [] []) [s162.2.1, s162.2.2.1, v167] h163 fun v168 h169 =>
pExtract v168 0 fun v170 =>
pExtract v168 1 fun v171 =>
pBox h169 48 (.agg [(.int .i64 (.ofNat 0)), (.int .u64 (.ofNat 0))]) fun v172 h173 =>
pStore h173 v172 v170 2 fun h174 =>
pInt .neq v171 (.int .i64 (.ofNat 11)) fun v175 =>
pCond v175 (
j128 (s162.2.1, s162.2.2.2.1, ()) h174 d164) (
pCall c (.fn 22 [] []) [s162.2.1] h174 fun v176 h177 =>
pInt .lss v176 (.int .i64 (.ofNat 1)) fun v178 =>
joinC (α := AV × AV × AV × AV × AV × AV × AV × AV × AV × Unit → AH → R) (fun s179 h180 =>
pPick s179.2.1 (.bool true) s179.1 fun v182 =>
joinC (α := AV × AV × AV × AV × AV × AV × AV × AV × AV × Unit → AH → R) (fun s183 h184 =>
pPick s183.2.1 (.bool true) s183.1 fun v186 =>
joinC (α := AV × AV × AV × AV × AV × AV × AV × AV × Unit → AH → R) (fun s187 h188 =>
pPick s187.2.1 (.bool true) s187.1 fun v190 =>
pCond v190 (
pLeave d164 h188 fun h191 =>
some ((.bool false), h191)) (
pInt .add s187.2.2.1 (.int .i64 (.ofNat 1)) fun v192 =>
i165 (v192, s187.2.2.2.1, s187.2.2.2.2.1, s187.2.2.2.2.2.1, s187.2.2.2.2.2.2.1, s187.2.2.2.2.2.2.2.1, ()) h188 d164)) fun j189 =>
pWant v186 false (
pIdxS s183.2.2.2.2.2.2.2.1 s183.2.2.1 1 fun v193 =>
pLoad1 h184 v193 fun v194 =>
pCall c (.fn 23 [] []) [s183.2.2.2.2.1, s183.2.2.1, v194] h184 fun v195 h196 =>
pInt .neq v195 (.int .i64 (.ofNat 0)) fun v197 =>
j189 (v197, v186, s183.2.2.2.1, s183.2.2.2.2.1, s183.2.2.2.2.2.1, s183.2.2.2.2.2.2.1, s183.2.2.2.2.2.2.2.1, s183.2.2.2.2.2.2.2.2.1, ()) h196) (
j189 (.undef, v186, s183.2.2.2.1, s183.2.2.2.2.1, s183.2.2.2.2.2.1, s183.2.2.2.2.2.2.1, s183.2.2.2.2.2.2.2.1, s183.2.2.2.2.2.2.2.2.1, ()) h184)) fun j185 =>
pWant v182 false (
pIdxS s179.2.2.2.2.2.2.1 s179.2.2.1 1 fun v198 =>
pLoad1 h180 v198 fun v199 =>
j185 (v199, v182, s179.2.2.1, s179.2.2.2.1, s179.2.2.2.2.1, s179.2.2.2.2.2.1, s179.2.2.2.2.2.2.1, s179.2.2.2.2.2.2.2.1, s179.2.2.2.2.2.2.2.2.1, ()) h180) (
j185 (.undef, v182, s179.2.2.1, s179.2.2.2.1, s179.2.2.2.2.1, s179.2.2.2.2.2.1, s179.2.2.2.2.2.2.1, s179.2.2.2.2.2.2.2.1, s179.2.2.2.2.2.2.2.2.1, ()) h180)) fun j181 =>
pWant v178 false (
pLenS s162.2.2.2.2.1 fun v200 =>
pInt .geq v176 v200 fun v201 =>
j181 (v201, v178, v176, s162.1, s162.2.1, s162.2.2.1, s162.2.2.2.1, s162.2.2.2.2.1, s162.2.2.2.2.2.1, ()) h177) (
j181 (.undef, v178, v176, s162.1, s162.2.1, s162.2.2.1, s162.2.2.2.1, s162.2.2.2.2.1, s162.2.2.2.2.2.1, ()) h177))) (
j128 (s162.2.1, s162.2.2.2.1, ()) h163 d164)) ((.int .i64 (.ofNat 0)), v121, v116, s20.2.2.2.1, s20.2.2.2.2.2.1, s20.2.2.2.2.2.2.1, ()) h122 d14))) fun j22 =>
pWant v19 true (
pInt .lss s12.1 (.int .i64 (.ofNat 24)) fun v202 =>
j22 (v202, v19, s12.1, s12.2.1, s12.2.2.1, s12.2.2.2.1, s12.2.2.2.2.1, s12.2.2.2.2.2.1, s12.2.2.2.2.2.2.1, ()) h13) (
j22 (.undef, v19, s12.1, s12.2.1, s12.2.2.1, s12.2.2.2.1, s12.2.2.2.2.1, s12.2.2.2.2.2.1, s12.2.2.2.2.2.2.1, ()) h13)) ((.int .i64 (.ofNat 0)), v10, v8, v5, v0, a1, a0, ()) h11 [])
theorem S5_eq (c : CV) (a0 a1 a2 : AV) (h : AH) : enterK Try.prog NN P5 c 5 [a0, a1, a2] h = S5 c a0 a1 a2 h := by kernel_rfl
def W5 (c : CV) (l : List AV) (h : AH) : R := match l with | [a0, a1, a2] => S5 c a0 a1 a2 h | _ => none
theorem W5_ok : WOk Try.prog 5 W5 := by
  intro c l h r e
  unfold W5 at e
  split at e
  · exact ⟨P5, by rw [S5_eq]; exact e⟩
  · cases e
/- quietus/quietuslaw19.QueueBlocks -/
def P6 : Pl := (.n none .z (.n none .z (.n none .z (.n none .z (.n none (.n none .z (.n none (.n (some [7, 6, 5, 1, 0]) (.n none .z (.n none (.n none (.n none .z (.n none (.n (some [8, 7, 6, 5, 1, 0]) (.n none (.n none (.r [[33, 31, 8, 7, 6, 5, 1, 0]]) .z) (.n none (.n none (.n none .z (.n none .z (.n none .z (.n none .z (.n none .z (.n none .z (.n none .z (.n none (.r [[74, 68, 8, 7, 6, 5, 1, 0]]) .z)))))))) .z) .z)) .z) .z)) .z) .z)) .z) .z)) .z)))))
def S6 (c : CV) (a0 a1 : AV) (h : AH) : R :=
pCall c (.fn 3 [] []) [] h fun v0 h1 =>
pUn .not v0 fun v2 =>
pCond v2 (
some ((.bool false), h1)) (
pCall c (.fn 8 [] []) [(.int .i64 (.ofNat 256))] h1 fun v3 h4 =>
pBuild [.nils, .nils, .nils, .nils, .nils, .nils, .nils, .nils] [] fun v5 =>
pBox h4 41 v5 fun v6 h7 =>
loopC (σ := AV × AV × AV × AV × AV × Unit) NN (fun i11 s8 h9 d10 =>
pInt .rem s8.2.2.2.1 (.int .u8 (.ofNat 3)) fun v12 =>
pConvI .i64 v12 fun v13 =>
pInt .leq s8.1 v13 fun v14 =>
pCond v14 (
loopC (σ := AV × AV × AV × AV × AV × AV × Unit) NN (fun i18 s15 h16 d17 =>
pLenS s15.2.2.2.2.2.1 fun v19 =>
pInt .lss s15.1 v19 fun v20 =>
joinC (α := AV × AV × AV × AV × AV × AV × AV × AV × Unit → AH → R) (fun s21 h22 =>
pPick s21.2.1 s21.1 (.bool false) fun v24 =>
pCond v24 (
pIdxS s21.2.2.2.2.2.2.2.1 s21.2.2.1 4 fun v25 =>
pLoadN h22 v25 4 fun v26 =>
pCall c (.fn 13 [] []) [v26] h22 fun v27 h28 =>
pBox h28 36 (.agg [(.int .i64 (.ofNat 0)), (.int .i64 (.ofNat 0)), (.int .u64 (.ofNat 0)), (.int .u64 (.ofNat 0))]) fun v29 h30 =>
pStore h30 v29 v27 4 fun h31 =>
pFieldA v29 1 fun v32 =>
pStore h31 v32 (.int .i64 (.ofNat 0)) 1 fun h33 =>
pLoadN h33 v29 4 fun v34 =>
pCall c (.fn 12 [] []) [s21.2.2.2.2.2.1, s21.2.2.2.2.1, v34] h33 fun v35 h36 =>
pExtract v35 0 fun v37 =>
pExtract v35 1 fun v38 =>
pUn .not v38 fun v39 =>
pCond v39 (
pLeave d17 h36 fun h40 =>
some ((.bool false), h40)) (
pLoadN h36 v29 4 fun v41 =>
pCall c (.fn 14 [] []) [v41] h36 fun v42 h43 =>
pNil s21.2.2.2.2.1 fun v44 =>
pFieldA v44 0 fun v45 =>
pIdxP v45 v42 8 1 fun v46 =>
pLoad1 h43 v46 fun v47 =>
pLenS v47 fun v48 =>
pCall c (.fn 27 [] []) [v37] h43 fun v49 h50 =>
pExtract v49 0 fun _ =>
pExtract v49 1 fun v52 =>
pInt .neq v52 (.int .i64 (.ofNat 0)) fun v53 =>
joinC (α := AV × AV × AV × AV × AV × AV × AV × AV × Unit → AH → R) (fun s54 h55 =>
pPick s54.2.1 (.bool true) s54.1 fun v57 =>
pCond v57 (
pLeave d17 h55 fun h58 =>
some ((.bool false), h58)) (
pInt .add s54.2.2.1 (.int .i64 (.ofNat 1)) fun v59 =>
i18 (v59, s54.2.2.2.1, s54.2.2.2.2.1, s54.2.2.2.2.2.1, s54.2.2.2.2.2.2.1, s54.2.2.2.2.2.2.2.1, ()) h55 d17)) fun j56 =>
pWant v53 false (
pCall c (.fn 28 [] []) [v37] h50 fun v60 h61 =>
pInt .mul (.int .i64 (.ofNat 2)) v48 fun v62 =>
pInt .add v62 (.int .i64 (.ofNat 2)) fun v63 =>
pInt .gtr v60 v63 fun v64 =>
j56 (v64, v53, s21.2.2.1, s21.2.2.2.1, s21.2.2.2.2.1, v37, s21.2.2.2.2.2.2.1, s21.2.2.2.2.2.2.2.1, ()) h61) (
j56 (.undef, v53, s21.2.2.1, s21.2.2.2.1, s21.2.2.2.2.1, v37, s21.2.2.2.2.2.2.1, s21.2.2.2.2.2.2.2.1, ()) h50))) (
pInt .add s21.2.2.2.1 (.int .i64 (.ofNat 1)) fun v65 =>
i11 (v65, s21.2.2.2.2.1, s21.2.2.2.2.2.1, s21.2.2.2.2.2.2.1, s21.2.2.2.2.2.2.2.1, ()) h22 d17)) fun j23 =>
pWant v20 true (
pInt .lss s15.1 (.int .i64 (.ofNat 20)) fun v66 =>
j23 (v66, v20, s15.1, s15.2.1, s15.2.2.1, s15.2.2.2.1, s15.2.2.2.2.1, s15.2.2.2.2.2.1, ()) h16) (
j23 (.undef, v20, s15.1, s15.2.1, s15.2.2.1, s15.2.2.2.1, s15.2.2.2.2.1, s15.2.2.2.2.2.1, ()) h16)) ((.int .i64 (.ofNat 0)), s8.1, s8.2.1, s8.2.2.1, s8.2.2.2.1, s8.2.2.2.2.1, ()) h9 d10) (
pLeave d10 h9 fun h67 =>
some ((.bool true), h67))) ((.int .i64 (.ofNat 0)), v6, v3, a1, a0, ()) h7 [])
theorem S6_eq (c : CV) (a0 a1 : AV) (h : AH) : enterK Try.prog NN P6 c 6 [a0, a1] h = S6 c a0 a1 h := by kernel_rfl
def W6 (c : CV) (l : List AV) (h : AH) : R := match l with | [a0, a1] => S6 c a0 a1 h | _ => none
theorem W6_ok : WOk Try.prog 6 W6 := by
  intro c l h r e
  unfold W6 at e
  split at e
  · exact ⟨P6, by rw [S6_eq]; exact e⟩
  · cases e
/- quietus/view.Whole -/
def P7 : Pl := (.n none .z (.n none .z (.n none (.n none .z (.n none (.n (some [6, 5, 0]) (.n none .z (.n none (.n none (.n none .z (.n (some [7, 6, 5, 0]) .z .z)) .z) .z)) .z) .z)) .z)))
def S7 (c : CV) (a0 a1 : AV) (h : AH) : R :=
pLenS a0 fun v0 =>
pCall c (.fn 15 [] []) [v0, a1] h fun v1 h2 =>
loopC (σ := AV × AV × AV × Unit) NN (fun i6 s3 h4 d5 =>
pCall c (.fn 29 [] []) [s3.2.1] h4 fun v7 h8 =>
pInt .lss s3.1 v7 fun v9 =>
pCond v9 (
joinC (α := AV × AV × AV × AV × Unit → AH → List Nat → R) (fun s10 h11 d12 =>
pCall c (.fn 23 [] []) [s10.2.2.1, s10.2.1, s10.1] h11 fun _ h15 =>
pInt .add s10.2.1 (.int .i64 (.ofNat 1)) fun v16 =>
i6 (v16, s10.2.2.1, s10.2.2.2.1, ()) h15 d12) fun j13 =>
pLenS s3.2.2.1 fun v17 =>
pInt .lss s3.1 v17 fun v18 =>
pCond v18 (
pIdxS s3.2.2.1 s3.1 1 fun v19 =>
pLoad1 h8 v19 fun v20 =>
j13 (v20, s3.1, s3.2.1, s3.2.2.1, ()) h8 d5) (
j13 ((.int .u64 (.ofNat 0)), s3.1, s3.2.1, s3.2.2.1, ()) h8 d5)) (
pLeave d5 h8 fun h21 =>
some (s3.2.1, h21))) ((.int .i64 (.ofNat 1)), v1, a0, ()) h2 []
theorem S7_eq (c : CV) (a0 a1 : AV) (h : AH) : enterK Try.prog NN P7 c 7 [a0, a1] h = S7 c a0 a1 h := by kernel_rfl
def W7 (c : CV) (l : List AV) (h : AH) : R := match l with | [a0, a1] => S7 c a0 a1 h | _ => none
theorem W7_ok : WOk Try.prog 7 W7 := by
  intro c l h r e
  unfold W7 at e
  split at e
  · exact ⟨P7, by rw [S7_eq]; exact e⟩
  · cases e
/- quietus/arena.Fresh -/
def P8 : Pl := .z
def S8 (_ : CV) (a0 : AV) (h : AH) : R :=
pMM false [a0, (.int .i64 (.ofNat 256))] fun v0 =>
pMM true [(.int .i64 (.ofNat 32)), v0] fun v1 =>
pMake h 28 [(.int .u64 (.ofNat 0))] v1 v1 fun v2 h3 =>
pIdxS v2 (.int .i64 (.ofNat 5)) 1 fun v4 =>
pStore h3 v4 (.int .u64 (.ofNat 14)) 1 fun h5 =>
some (v2, h5)
theorem S8_eq (c : CV) (a0 : AV) (h : AH) : enterK Try.prog NN P8 c 8 [a0] h = S8 c a0 h := by kernel_rfl
def W8 (c : CV) (l : List AV) (h : AH) : R := match l with | [a0] => S8 c a0 h | _ => none
theorem W8_ok : WOk Try.prog 8 W8 := by
  intro c l h r e
  unfold W8 at e
  split at e
  · exact ⟨P8, by rw [S8_eq]; exact e⟩
  · cases e
/- quietus/queue.Push -/
def P9 : Pl := .z
def S9 (c : CV) (a0 a1 a2 : AV) (h : AH) : R :=
pBox h 3 a1 fun v0 h1 =>
pBox h1 28 a2 fun v2 h3 =>
pLoad1 h3 v0 fun v4 =>
pCall c (.fn 30 [] []) [a0, v4, (.fn 31 [] [v0, v2])] h3 fun v5 h6 =>
some (v5, h6)
theorem S9_eq (c : CV) (a0 a1 a2 : AV) (h : AH) : enterK Try.prog NN P9 c 9 [a0, a1, a2] h = S9 c a0 a1 a2 h := by kernel_rfl
def W9 (c : CV) (l : List AV) (h : AH) : R := match l with | [a0, a1, a2] => S9 c a0 a1 a2 h | _ => none
theorem W9_ok : WOk Try.prog 9 W9 := by
  intro c l h r e
  unfold W9 at e
  split at e
  · exact ⟨P9, by rw [S9_eq]; exact e⟩
  · cases e
/- quietus/queue.Take -/
def P10 : Pl := .z
def S10 (c : CV) (a0 a1 : AV) (h : AH) : R :=
pBox h 3 a1 fun v0 h1 =>
pBox h1 28 (.int .u64 (.ofNat 0)) fun v2 h3 =>
pBox h3 4 (.bool false) fun v4 h5 =>
pStore h5 v2 (.int .u64 (.ofNat 0)) 1 fun h6 =>
pStore h6 v4 (.bool false) 1 fun h7 =>
pLoad1 h7 v0 fun v8 =>
pCall c (.fn 30 [] []) [a0, v8, (.fn 37 [] [v0, v2, v4])] h7 fun v9 h10 =>
pInt .neq v9 (.int .i64 (.ofNat 0)) fun v11 =>
pCond v11 (
some ((.tup [(.int .u64 (.ofNat 0)), (.bool false), v9]), h10)) (
pLoad1 h10 v2 fun v12 =>
pLoad1 h10 v4 fun v13 =>
some ((.tup [v12, v13, (.int .i64 (.ofNat 0))]), h10))
theorem S10_eq (c : CV) (a0 a1 : AV) (h : AH) : enterK Try.prog NN P10 c 10 [a0, a1] h = S10 c a0 a1 h := by kernel_rfl
def W10 (c : CV) (l : List AV) (h : AH) : R := match l with | [a0, a1] => S10 c a0 a1 h | _ => none
theorem W10_ok : WOk Try.prog 10 W10 := by
  intro c l h r e
  unfold W10 at e
  split at e
  · exact ⟨P10, by rw [S10_eq]; exact e⟩
  · cases e
/- quietus/queue.All -/
def P11 : Pl := .z
def S11 (c : CV) (a0 a1 : AV) (h : AH) : R :=
pBox h 3 a1 fun v0 h1 =>
pBox h1 24 .nils fun v2 h3 =>
pLoad1 h3 v0 fun v4 =>
pCall c (.fn 30 [] []) [a0, v4, (.fn 40 [] [v0, v2])] h3 fun v5 h6 =>
pInt .neq v5 (.int .i64 (.ofNat 0)) fun v7 =>
pCond v7 (
some ((.tup [.nils, v5]), h6)) (
pLoad1 h6 v2 fun v8 =>
some ((.tup [v8, (.int .i64 (.ofNat 0))]), h6))
theorem S11_eq (c : CV) (a0 a1 : AV) (h : AH) : enterK Try.prog NN P11 c 11 [a0, a1] h = S11 c a0 a1 h := by kernel_rfl
def W11 (c : CV) (l : List AV) (h : AH) : R := match l with | [a0, a1] => S11 c a0 a1 h | _ => none
theorem W11_ok : WOk Try.prog 11 W11 := by
  intro c l h r e
  unfold W11 at e
  split at e
  · exact ⟨P11, by rw [S11_eq]; exact e⟩
  · cases e
/- quietus/quietuslaw19.step -/
def P12 : Pl := (.n none .z (.n none .z (.n none .z (.n none .z (.n none .z (.n none (.n none (.r [[38, 35, 11, 10, 9, 8, 5, 1, 0], [48, 40, 11, 10, 9, 8, 5, 1, 0]]) (.n none (.n none (.r [[59, 55, 50, 8], [64, 61, 50]]) .z) .z)) (.n none .z (.n none (.n none (.r [[76, 74, 13, 12, 10, 9, 8, 5, 1, 0], [79, 76, 74, 13, 10, 9, 8, 5, 1, 0], [80, 74, 13, 10, 9, 8, 5, 1, 0], [85, 82, 10, 9, 8, 5, 1, 0], [88, 85, 82, 9, 8, 5, 1, 0], [89, 82, 9, 8, 5, 1, 0], [94, 91, 9, 8, 5, 1, 0]]) .z) (.n none .z (.n none .z (.n none (.n none (.r [[109, 107, 15, 9, 5, 1, 0]]) .z) (.n none .z (.n none (.r [[130, 121, 118, 15], [136, 132, 118]]) .z)))))))))))))
def S12 (c : CV) (a0 a1 a2 : AV) (h : AH) : R :=
pBox h 36 a2 fun v0 h1 =>
pCall c (.fn 7 [] []) [a0, (.int .i64 (.ofNat 96))] h1 fun v2 h3 =>
pEq .ptr false v2 .nilp fun v4 =>
pCond v4 (
some ((.tup [a0, (.bool false)]), h3)) (
pLoadN h3 v0 4 fun v5 =>
pCall c (.fn 14 [] []) [v5] h3 fun v6 h7 =>
pInt .add (.int .i64 (.ofNat 6)) v6 fun v8 =>
pLoadN h7 v0 4 fun v9 =>
pCall c (.fn 16 [] []) [v2, v8, v9] h7 fun v10 h11 =>
pExtract v10 0 fun v12 =>
pExtract v10 1 fun v13 =>
pBox h11 48 (.agg [(.int .i64 (.ofNat 0)), (.int .u64 (.ofNat 0))]) fun v14 h15 =>
pStore h15 v14 v12 2 fun h16 =>
pInt .eql v13 (.int .i64 (.ofNat 4)) fun v17 =>
joinC (α := AV × AV × AV × AV × AV × AV × AV × AV × AV × Unit → AH → R) (fun s18 h19 =>
pPick s18.2.1 s18.1 (.bool false) fun v21 =>
joinC (α := AV × AV × AV × AV × AV × AV × AV × AV × AV × Unit → AH → R) (fun s22 h23 =>
pPick s22.2.1 s22.1 (.bool false) fun v25 =>
pCond v25 (
pCall c (.fn 18 [] []) [s22.2.2.2.2.2.1] h23 fun v26 h27 =>
pLenS v26 fun v28 =>
pInt .eql v28 (.int .i64 (.ofNat 0)) fun v29 =>
joinC (α := AV × AV × AV × AV × Unit → AH → R) (fun s30 h31 =>
pPick s30.2.1 s30.1 (.bool false) fun v33 =>
joinC (α := AV × AV × AV × Unit → AH → R) (fun s34 h35 =>
pPick s34.2.1 s34.1 (.bool false) fun v37 =>
some ((.tup [s34.2.2.1, v37]), h35)) fun j36 =>
pWant v33 true (
pCall c (.fn 21 [] []) [s30.2.2.2.1] h31 fun v38 h39 =>
pInt .eql v38 (.int .i64 (.ofNat 1)) fun v40 =>
j36 (v40, v33, s30.2.2.1, ()) h39) (
j36 (.undef, v33, s30.2.2.1, ()) h31)) fun j32 =>
pWant v29 true (
pCall c (.fn 20 [] []) [s22.2.2.2.2.2.1] h27 fun v41 h42 =>
pLenS v41 fun v43 =>
pInt .eql v43 (.int .i64 (.ofNat 0)) fun v44 =>
j32 (v44, v29, s22.2.2.2.2.2.2.2.2.1, s22.2.2.2.2.2.1, ()) h42) (
j32 (.undef, v29, s22.2.2.2.2.2.2.2.2.1, s22.2.2.2.2.2.1, ()) h27)) (
pLoadN h23 s22.2.2.2.2.2.2.1 4 fun v45 =>
pCall c (.fn 42 [] []) [s22.2.2.2.2.2.2.2.1, v45] h23 fun v46 h47 =>
pExtract v46 0 fun v48 =>
pExtract v46 1 fun v49 =>
pBox h47 48 (.agg [(.int .i64 (.ofNat 0)), (.int .u64 (.ofNat 0))]) fun v50 h51 =>
pStore h51 v50 v48 2 fun h52 =>
pInt .neq s22.2.2.1 (.int .i64 (.ofNat 0)) fun v53 =>
joinC (α := AV × AV × AV × AV × AV × AV × AV × AV × AV × AV × Unit → AH → R) (fun s54 h55 =>
joinC (α := AV × AV × AV × AV × AV × AV × AV × AV × AV × AV × Unit → AH → R) (fun s57 h58 =>
joinC (α := AV × AV × AV × AV × AV × AV × AV × AV × AV × Unit → AH → R) (fun s60 h61 =>
pPick s60.2.1 (.bool true) s60.1 fun v63 =>
joinC (α := AV × AV × AV × AV × AV × AV × AV × AV × Unit → AH → R) (fun s64 h65 =>
joinC (α := AV × AV × AV × AV × AV × AV × AV × AV × Unit → AH → R) (fun s67 h68 =>
joinC (α := AV × AV × AV × AV × AV × AV × AV × Unit → AH → R) (fun s70 h71 =>
pPick s70.2.1 (.bool true) s70.1 fun v73 =>
joinC (α := AV × AV × AV × AV × AV × AV × AV × Unit → AH → R) (fun s74 h75 =>
pPick s74.2.1 (.bool true) s74.1 fun v77 =>
pCond v77 (
some ((.tup [s74.2.2.2.2.2.2.1, (.bool false)]), h75)) (
pCall c (.fn 43 [] []) [s74.2.2.2.2.2.2.1, s74.2.2.2.1] h75 fun v78 h79 =>
pExtract v78 0 fun v80 =>
pExtract v78 1 fun v81 =>
pCall c (.fn 7 [] []) [v80, (.int .i64 (.ofNat 96))] h79 fun v82 h83 =>
pUn .not v81 fun v84 =>
joinC (α := AV × AV × AV × AV × AV × AV × AV × Unit → AH → R) (fun s85 h86 =>
pPick s85.2.1 (.bool true) s85.1 fun v88 =>
pCond v88 (
some ((.tup [s85.2.2.2.2.2.2.1, (.bool false)]), h86)) (
pCall c (.fn 44 [] []) [s85.2.2.1, s85.2.2.2.1] h86 fun v89 h90 =>
pExtract v89 0 fun v91 =>
pExtract v89 1 fun v92 =>
pInt .eql v92 (.int .i64 (.ofNat 0)) fun v93 =>
joinC (α := AV × AV × AV × AV × Unit → AH → R) (fun s94 h95 =>
pPick s94.2.1 s94.1 (.bool false) fun v97 =>
joinC (α := AV × AV × AV × Unit → AH → R) (fun s98 h99 =>
pPick s98.2.1 s98.1 (.bool false) fun v101 =>
some ((.tup [s98.2.2.1, v101]), h99)) fun j100 =>
pWant v97 true (
pCall c (.fn 18 [] []) [s94.2.2.2.1] h95 fun v102 h103 =>
pLenS v102 fun v104 =>
pInt .eql v104 (.int .i64 (.ofNat 0)) fun v105 =>
j100 (v105, v97, s94.2.2.1, ()) h103) (
j100 (.undef, v97, s94.2.2.1, ()) h95)) fun j96 =>
pWant v93 true (
pLoadN h90 s85.2.2.2.2.1 4 fun v106 =>
pCall c (.fn 14 [] []) [v106] h90 fun v107 h108 =>
pNil s85.2.2.2.2.2.1 fun v109 =>
pFieldA v109 0 fun v110 =>
pIdxP v110 v107 8 1 fun v111 =>
pLoad1 h108 v111 fun v112 =>
pCall c (.fn 45 [] []) [v91, v112] h108 fun v113 h114 =>
j96 (v113, v93, s85.2.2.2.2.2.2.1, s85.2.2.1, ()) h114) (
j96 (.undef, v93, s85.2.2.2.2.2.2.1, s85.2.2.1, ()) h90))) fun j87 =>
pWant v84 false (
pEq .ptr false v82 .nilp fun v115 =>
j87 (v115, v84, v82, s74.2.2.1, s74.2.2.2.2.1, s74.2.2.2.2.2.1, v80, ()) h83) (
j87 (.undef, v84, v82, s74.2.2.1, s74.2.2.2.2.1, s74.2.2.2.2.2.1, v80, ()) h83))) fun j76 =>
pWant v73 false (
pCall c (.fn 21 [] []) [s70.2.2.2.1] h71 fun v116 h117 =>
pInt .neq v116 (.int .i64 (.ofNat 1)) fun v118 =>
j76 (v118, v73, s70.2.2.1, s70.2.2.2.1, s70.2.2.2.2.1, s70.2.2.2.2.2.1, s70.2.2.2.2.2.2.1, ()) h117) (
j76 (.undef, v73, s70.2.2.1, s70.2.2.2.1, s70.2.2.2.2.1, s70.2.2.2.2.2.1, s70.2.2.2.2.2.2.1, ()) h71)) fun j72 =>
pWant s67.2.2.1 false (
pPick s67.2.1 s67.1 (.bool false) fun v119 =>
j72 (v119, s67.2.2.1, s67.2.2.2.1, s67.2.2.2.2.1, s67.2.2.2.2.2.1, s67.2.2.2.2.2.2.1, s67.2.2.2.2.2.2.2.1, ()) h68) (
j72 (.undef, s67.2.2.1, s67.2.2.2.1, s67.2.2.2.2.1, s67.2.2.2.2.2.1, s67.2.2.2.2.2.2.1, s67.2.2.2.2.2.2.2.1, ()) h68)) fun j69 =>
pWant s64.1 true (
pLoadN h65 s64.2.2.1 2 fun v120 =>
pBuild [(.int .i64 (.ofNat 0)), (.int .u64 (.ofNat 0))] [] fun v121 =>
pEqS [.bas .int 0, .bas .int 1] true v120 v121 fun v122 =>
j69 (v122, s64.1, s64.2.1, s64.2.2.2.1, s64.2.2.2.2.1, s64.2.2.2.2.2.1, s64.2.2.2.2.2.2.1, s64.2.2.2.2.2.2.2.1, ()) h65) (
j69 (.undef, s64.1, s64.2.1, s64.2.2.2.1, s64.2.2.2.2.1, s64.2.2.2.2.2.1, s64.2.2.2.2.2.2.1, s64.2.2.2.2.2.2.2.1, ()) h65)) fun j66 =>
pWant v63 false (
pUn .not s60.2.2.1 fun v123 =>
j66 (v123, v63, s60.2.2.2.1, s60.2.2.2.2.1, s60.2.2.2.2.2.1, s60.2.2.2.2.2.2.1, s60.2.2.2.2.2.2.2.1, s60.2.2.2.2.2.2.2.2.1, ()) h61) (
j66 (.undef, v63, s60.2.2.2.1, s60.2.2.2.2.1, s60.2.2.2.2.2.1, s60.2.2.2.2.2.2.1, s60.2.2.2.2.2.2.2.1, s60.2.2.2.2.2.2.2.2.1, ()) h61)) fun j62 =>
pWant s57.2.2.1 false (
pPick s57.2.1 s57.1 (.bool false) fun v124 =>
j62 (v124, s57.2.2.1, s57.2.2.2.1, s57.2.2.2.2.1, s57.2.2.2.2.2.1, s57.2.2.2.2.2.2.1, s57.2.2.2.2.2.2.2.1, s57.2.2.2.2.2.2.2.2.1, s57.2.2.2.2.2.2.2.2.2.1, ()) h58) (
j62 (.undef, s57.2.2.1, s57.2.2.2.1, s57.2.2.2.2.1, s57.2.2.2.2.2.1, s57.2.2.2.2.2.2.1, s57.2.2.2.2.2.2.2.1, s57.2.2.2.2.2.2.2.2.1, s57.2.2.2.2.2.2.2.2.2.1, ()) h58)) fun j59 =>
pWant s54.1 true (
pLoadN h55 s54.2.2.2.2.1 2 fun v125 =>
pLoadN h55 s54.2.2.2.1 2 fun v126 =>
pEqS [.bas .int 0, .bas .int 1] true v125 v126 fun v127 =>
j59 (v127, s54.1, s54.2.1, s54.2.2.1, s54.2.2.2.2.1, s54.2.2.2.2.2.1, s54.2.2.2.2.2.2.1, s54.2.2.2.2.2.2.2.1, s54.2.2.2.2.2.2.2.2.1, s54.2.2.2.2.2.2.2.2.2.1, ()) h55) (
j59 (.undef, s54.1, s54.2.1, s54.2.2.1, s54.2.2.2.2.1, s54.2.2.2.2.2.1, s54.2.2.2.2.2.2.1, s54.2.2.2.2.2.2.2.1, s54.2.2.2.2.2.2.2.2.1, s54.2.2.2.2.2.2.2.2.2.1, ()) h55)) fun j56 =>
pWant v53 false (
j56 (v49, v53, v49, v50, s22.2.2.2.1, s22.2.2.2.2.1, s22.2.2.2.2.2.1, s22.2.2.2.2.2.2.1, s22.2.2.2.2.2.2.2.1, s22.2.2.2.2.2.2.2.2.1, ()) h52) (
j56 (.undef, v53, v49, v50, s22.2.2.2.1, s22.2.2.2.2.1, s22.2.2.2.2.2.1, s22.2.2.2.2.2.2.1, s22.2.2.2.2.2.2.2.1, s22.2.2.2.2.2.2.2.2.1, ()) h52))) fun j24 =>
pWant v21 true (
pIdxS s18.2.2.2.2.2.2.2.2.1 (.int .i64 (.ofNat 5)) 1 fun v128 =>
pLoad1 h19 v128 fun v129 =>
pInt .add v129 (.int .u64 (.ofNat 40)) fun v130 =>
pLenS s18.2.2.2.2.2.2.2.2.1 fun v131 =>
pConvI .u64 v131 fun v132 =>
pInt .gtr v130 v132 fun v133 =>
j24 (v133, v21, s18.2.2.1, s18.2.2.2.1, s18.2.2.2.2.1, s18.2.2.2.2.2.1, s18.2.2.2.2.2.2.1, s18.2.2.2.2.2.2.2.1, s18.2.2.2.2.2.2.2.2.1, ()) h19) (
j24 (.undef, v21, s18.2.2.1, s18.2.2.2.1, s18.2.2.2.2.1, s18.2.2.2.2.2.1, s18.2.2.2.2.2.2.1, s18.2.2.2.2.2.2.2.1, s18.2.2.2.2.2.2.2.2.1, ()) h19)) fun j20 =>
pWant v17 true (
pLenS a0 fun v134 =>
pInt .gtr v134 (.int .i64 (.ofNat 5)) fun v135 =>
j20 (v135, v17, v13, v14, v8, v2, v0, a1, a0, ()) h16) (
j20 (.undef, v17, v13, v14, v8, v2, v0, a1, a0, ()) h16))
theorem S12_eq (c : CV) (a0 a1 a2 : AV) (h : AH) : enterK Try.prog NN P12 c 12 [a0, a1, a2] h = S12 c a0 a1 a2 h := by kernel_rfl
def W12 (c : CV) (l : List AV) (h : AH) : R := match l with | [a0, a1, a2] => S12 c a0 a1 a2 h | _ => none
theorem W12_ok : WOk Try.prog 12 W12 := by
  intro c l h r e
  unfold W12 at e
  split at e
  · exact ⟨P12, by rw [S12_eq]; exact e⟩
  · cases e
/- quietus/quietuslaw19.mine -/
def P13 : Pl := .z
def S13 (c : CV) (a0 : AV) (h : AH) : R :=
pBox h 36 a0 fun v0 h1 =>
pBox h1 36 (.agg [(.int .i64 (.ofNat 0)), (.int .i64 (.ofNat 0)), (.int .u64 (.ofNat 0)), (.int .u64 (.ofNat 0))]) fun v2 h3 =>
pFieldA v0 0 fun v4 =>
pLoad1 h3 v4 fun v5 =>
pCall c (.fn 46 [] []) [v5, (.int .i64 (.ofNat 7)), (.int .i64 (.ofNat 8))] h3 fun v6 h7 =>
pFieldA v0 0 fun v8 =>
pStore h7 v8 v6 1 fun h9 =>
pLoadN h9 v0 4 fun v10 =>
pStore h9 v2 v10 4 fun h11 =>
pLoadN h11 v2 4 fun v12 =>
some (v12, h11)
theorem S13_eq (c : CV) (a0 : AV) (h : AH) : enterK Try.prog NN P13 c 13 [a0] h = S13 c a0 h := by kernel_rfl
def W13 (c : CV) (l : List AV) (h : AH) : R := match l with | [a0] => S13 c a0 h | _ => none
theorem W13_ok : WOk Try.prog 13 W13 := by
  intro c l h r e
  unfold W13 at e
  split at e
  · exact ⟨P13, by rw [S13_eq]; exact e⟩
  · cases e
/- (quietus/quietuskeep.Call).Place -/
def P14 : Pl := .z
def S14 (c : CV) (a0 : AV) (h : AH) : R :=
pBox h 36 a0 fun v0 h1 =>
pBuild [(.int .i64 (.ofNat 0)), (.int .i64 (.ofNat 0)), (.int .i64 (.ofNat 0)), (.int .i64 (.ofNat 0)), (.int .i64 (.ofNat 0)), (.int .i64 (.ofNat 0)), (.int .i64 (.ofNat 0)), (.int .i64 (.ofNat 0)), (.int .i64 (.ofNat 0)), (.int .i64 (.ofNat 0)), (.int .i64 (.ofNat 0)), (.int .i64 (.ofNat 0)), (.int .i64 (.ofNat 0))] [(0, 1, (.int .i64 (.ofNat 0))), (1, 1, (.int .i64 (.ofNat 0))), (2, 1, (.int .i64 (.ofNat 0))), (3, 1, (.int .i64 (.ofNat 0))), (4, 1, (.int .i64 (.ofNat 1))), (5, 1, (.int .i64 (.ofNat 1))), (6, 1, (.int .i64 (.ofNat 1))), (7, 1, (.int .i64 (.ofNat 2))), (8, 1, (.int .i64 (.ofNat 2))), (9, 1, (.int .i64 (.ofNat 3))), (10, 1, (.int .i64 (.ofNat 3))), (11, 1, (.int .i64 (.ofNat 3))), (12, 1, (.int .i64 (.ofNat 3)))] fun v2 =>
pLoadN h1 v0 4 fun v3 =>
pCall c (.fn 47 [] []) [v3] h1 fun v4 h5 =>
pIdxA1 v2 v4 13 1 fun v6 =>
pInt .mul (.int .i64 (.ofNat 2)) v6 fun v7 =>
pFieldA v0 1 fun v8 =>
pLoad1 h5 v8 fun v9 =>
pCall c (.fn 46 [] []) [v9, (.int .i64 (.ofNat 0)), (.int .i64 (.ofNat 1))] h5 fun v10 h11 =>
pInt .add v7 v10 fun v12 =>
some (v12, h11)
theorem S14_eq (c : CV) (a0 : AV) (h : AH) : enterK Try.prog NN P14 c 14 [a0] h = S14 c a0 h := by kernel_rfl
def W14 (c : CV) (l : List AV) (h : AH) : R := match l with | [a0] => S14 c a0 h | _ => none
theorem W14_ok : WOk Try.prog 14 W14 := by
  intro c l h r e
  unfold W14 at e
  split at e
  · exact ⟨P14, by rw [S14_eq]; exact e⟩
  · cases e
/- quietus/view.New -/
def P15 : Pl := .z
def S15 (c : CV) (a0 a1 : AV) (h : AH) : R :=
pMM false [a0, (.int .i64 (.ofNat 256))] fun v0 =>
pMM true [(.int .i64 (.ofNat 32)), v0] fun v1 =>
pMake h 99 [(.int .u64 (.ofNat 0)), (.bool false)] v1 v1 fun v2 h3 =>
pCall c (.fn 48 [] []) [a1] h3 fun v4 h5 =>
pBuild [.nils, .nils, .nilp, (.int .i64 (.ofNat 0))] [(0, 1, v2), (2, 1, v4)] fun v6 =>
pBox h5 95 v6 fun v7 h8 =>
some (v7, h8)
theorem S15_eq (c : CV) (a0 a1 : AV) (h : AH) : enterK Try.prog NN P15 c 15 [a0, a1] h = S15 c a0 a1 h := by kernel_rfl
def W15 (c : CV) (l : List AV) (h : AH) : R := match l with | [a0, a1] => S15 c a0 a1 h | _ => none
theorem W15_ok : WOk Try.prog 15 W15 := by
  intro c l h r e
  unfold W15 at e
  split at e
  · exact ⟨P15, by rw [S15_eq]; exact e⟩
  · cases e
/- quietus/quietuslaw19.call -/
def P16 : Pl := .z
def S16 (c : CV) (a0 a1 a2 : AV) (h : AH) : R :=
pBox h 36 a2 fun v0 h1 =>
pBox h1 48 (.agg [(.int .i64 (.ofNat 0)), (.int .u64 (.ofNat 0))]) fun v2 h3 =>
pLoadN h3 v0 4 fun v4 =>
pCall c (.fn 47 [] []) [v4] h3 fun v5 h6 =>
pInt .eql v5 (.int .i64 (.ofNat 7)) fun v7 =>
pCond v7 (
pBuild [(.int .i64 (.ofNat 0)), (.int .u64 (.ofNat 0))] [(0, 1, (.int .i64 (.ofNat 3)))] fun v8 =>
pLoadN h6 v0 4 fun v9 =>
pCall c (.fn 49 [] []) [v9] h6 fun v10 h11 =>
pCall c (.fn 9 [] []) [a0, a1, v10] h11 fun v12 h13 =>
pStore h13 v2 v8 2 fun h14 =>
pLoadN h14 v2 2 fun v15 =>
some ((.tup [v15, v12]), h14)) (
pCall c (.fn 10 [] []) [a0, a1] h6 fun v16 h17 =>
pExtract v16 0 fun v18 =>
pExtract v16 1 fun v19 =>
pExtract v16 2 fun v20 =>
pUn .not v19 fun v21 =>
pCond v21 (
pBuild [(.int .i64 (.ofNat 0)), (.int .u64 (.ofNat 0))] [(1, 1, v18)] fun v22 =>
pStore h17 v2 v22 2 fun h23 =>
pLoadN h23 v2 2 fun v24 =>
some ((.tup [v24, v20]), h23)) (
pBuild [(.int .i64 (.ofNat 0)), (.int .u64 (.ofNat 0))] [(0, 1, (.int .i64 (.ofNat 1))), (1, 1, v18)] fun v25 =>
pStore h17 v2 v25 2 fun h26 =>
pLoadN h26 v2 2 fun v27 =>
some ((.tup [v27, v20]), h26)))
theorem S16_eq (c : CV) (a0 a1 a2 : AV) (h : AH) : enterK Try.prog NN P16 c 16 [a0, a1, a2] h = S16 c a0 a1 a2 h := by kernel_rfl
def W16 (c : CV) (l : List AV) (h : AH) : R := match l with | [a0, a1, a2] => S16 c a0 a1 a2 h | _ => none
theorem W16_ok : WOk Try.prog 16 W16 := by
  intro c l h r e
  unfold W16 at e
  split at e
  · exact ⟨P16, by rw [S16_eq]; exact e⟩
  · cases e
/- quietus/quietusbook.Same[quietus/api.Cell] -/
def P17 : Pl := (.n none .z (.n none .z (.n none (.n none .z (.n none (.n (some [5, 1, 0]) .z .z) .z)) .z)))
def S17 (_ : CV) (a0 a1 : AV) (h : AH) : R :=
pLenS a0 fun v0 =>
pLenS a1 fun v1 =>
pInt .neq v0 v1 fun v2 =>
pCond v2 (
some ((.bool false), h)) (
loopC (σ := AV × AV × AV × Unit) NN (fun i6 s3 h4 d5 =>
pLenS s3.2.2.1 fun v7 =>
pInt .lss s3.1 v7 fun v8 =>
pCond v8 (
pIdxS s3.2.2.1 s3.1 2 fun v9 =>
pLoadN h4 v9 2 fun v10 =>
pIdxS s3.2.1 s3.1 2 fun v11 =>
pLoadN h4 v11 2 fun v12 =>
pEqS [.bas .int 0, .bas .int 1] true v10 v12 fun v13 =>
pCond v13 (
pLeave d5 h4 fun h14 =>
some ((.bool false), h14)) (
pInt .add s3.1 (.int .i64 (.ofNat 1)) fun v15 =>
i6 (v15, s3.2.1, s3.2.2.1, ()) h4 d5)) (
pLeave d5 h4 fun h16 =>
some ((.bool true), h16))) ((.int .i64 (.ofNat 0)), a1, a0, ()) h [])
theorem S17_eq (c : CV) (a0 a1 : AV) (h : AH) : enterK Try.prog NN P17 c 17 [a0, a1] h = S17 c a0 a1 h := by kernel_rfl
def W17 (c : CV) (l : List AV) (h : AH) : R := match l with | [a0, a1] => S17 c a0 a1 h | _ => none
theorem W17_ok : WOk Try.prog 17 W17 := by
  intro c l h r e
  unfold W17 at e
  split at e
  · exact ⟨P17, by rw [S17_eq]; exact e⟩
  · cases e
/- (*quietus/view.View).Cells -/
def P18 : Pl := .z
def S18 (c : CV) (a0 : AV) (h : AH) : R :=
pNil a0 fun v0 =>
pFieldA v0 2 fun v1 =>
pLoad1 h v1 fun v2 =>
pCall c (.fn 50 [] []) [v2] h fun v3 h4 =>
some (v3, h4)
theorem S18_eq (c : CV) (a0 : AV) (h : AH) : enterK Try.prog NN P18 c 18 [a0] h = S18 c a0 h := by kernel_rfl
def W18 (c : CV) (l : List AV) (h : AH) : R := match l with | [a0] => S18 c a0 h | _ => none
theorem W18_ok : WOk Try.prog 18 W18 := by
  intro c l h r e
  unfold W18 at e
  split at e
  · exact ⟨P18, by rw [S18_eq]; exact e⟩
  · cases e
/- quietus/quietusbook.Same[int] -/
def P19 : Pl := (.n none .z (.n none .z (.n none (.n none .z (.n none (.n (some [5, 1, 0]) .z .z) .z)) .z)))
def S19 (_ : CV) (a0 a1 : AV) (h : AH) : R :=
pLenS a0 fun v0 =>
pLenS a1 fun v1 =>
pInt .neq v0 v1 fun v2 =>
pCond v2 (
some ((.bool false), h)) (
loopC (σ := AV × AV × AV × Unit) NN (fun i6 s3 h4 d5 =>
pLenS s3.2.2.1 fun v7 =>
pInt .lss s3.1 v7 fun v8 =>
pCond v8 (
pIdxS s3.2.2.1 s3.1 1 fun v9 =>
pLoad1 h4 v9 fun v10 =>
pIdxS s3.2.1 s3.1 1 fun v11 =>
pLoad1 h4 v11 fun v12 =>
pInt .neq v10 v12 fun v13 =>
pCond v13 (
pLeave d5 h4 fun h14 =>
some ((.bool false), h14)) (
pInt .add s3.1 (.int .i64 (.ofNat 1)) fun v15 =>
i6 (v15, s3.2.1, s3.2.2.1, ()) h4 d5)) (
pLeave d5 h4 fun h16 =>
some ((.bool true), h16))) ((.int .i64 (.ofNat 0)), a1, a0, ()) h [])
theorem S19_eq (c : CV) (a0 a1 : AV) (h : AH) : enterK Try.prog NN P19 c 19 [a0, a1] h = S19 c a0 a1 h := by kernel_rfl
def W19 (c : CV) (l : List AV) (h : AH) : R := match l with | [a0, a1] => S19 c a0 a1 h | _ => none
theorem W19_ok : WOk Try.prog 19 W19 := by
  intro c l h r e
  unfold W19 at e
  split at e
  · exact ⟨P19, by rw [S19_eq]; exact e⟩
  · cases e
/- (*quietus/view.View).Frees -/
def P20 : Pl := .z
def S20 (c : CV) (a0 : AV) (h : AH) : R :=
pNil a0 fun v0 =>
pFieldA v0 2 fun v1 =>
pLoad1 h v1 fun v2 =>
pCall c (.fn 51 [] []) [v2] h fun v3 h4 =>
some (v3, h4)
theorem S20_eq (c : CV) (a0 : AV) (h : AH) : enterK Try.prog NN P20 c 20 [a0] h = S20 c a0 h := by kernel_rfl
def W20 (c : CV) (l : List AV) (h : AH) : R := match l with | [a0] => S20 c a0 h | _ => none
theorem W20_ok : WOk Try.prog 20 W20 := by
  intro c l h r e
  unfold W20 at e
  split at e
  · exact ⟨P20, by rw [S20_eq]; exact e⟩
  · cases e
/- (*quietus/view.View).Depth -/
def P21 : Pl := .z
def S21 (c : CV) (a0 : AV) (h : AH) : R :=
pNil a0 fun v0 =>
pFieldA v0 2 fun v1 =>
pLoad1 h v1 fun v2 =>
pCall c (.fn 52 [] []) [v2] h fun v3 h4 =>
some (v3, h4)
theorem S21_eq (c : CV) (a0 : AV) (h : AH) : enterK Try.prog NN P21 c 21 [a0] h = S21 c a0 h := by kernel_rfl
def W21 (c : CV) (l : List AV) (h : AH) : R := match l with | [a0] => S21 c a0 h | _ => none
theorem W21_ok : WOk Try.prog 21 W21 := by
  intro c l h r e
  unfold W21 at e
  split at e
  · exact ⟨P21, by rw [S21_eq]; exact e⟩
  · cases e
/- (*quietus/view.View).Need -/
def P22 : Pl := .z
def S22 (_ : CV) (a0 : AV) (h : AH) : R :=
pNil a0 fun v0 =>
pFieldA v0 3 fun v1 =>
pLoad1 h v1 fun v2 =>
some (v2, h)
theorem S22_eq (c : CV) (a0 : AV) (h : AH) : enterK Try.prog NN P22 c 22 [a0] h = S22 c a0 h := by kernel_rfl
def W22 (c : CV) (l : List AV) (h : AH) : R := match l with | [a0] => S22 c a0 h | _ => none
theorem W22_ok : WOk Try.prog 22 W22 := by
  intro c l h r e
  unfold W22 at e
  split at e
  · exact ⟨P22, by rw [S22_eq]; exact e⟩
  · cases e
/- (*quietus/view.View).Know -/
def P23 : Pl := .z
def S23 (c : CV) (a0 a1 a2 : AV) (h : AH) : R :=
pCall c (.fn 53 [] []) [a0, a1] h fun v0 h1 =>
pUn .not v0 fun v2 =>
pCond v2 (
some ((.int .i64 (.ofNat 2)), h1)) (
pNil a0 fun v3 =>
pFieldA v3 0 fun v4 =>
pLoad1 h1 v4 fun v5 =>
pIdxS v5 a1 2 fun v6 =>
pLoadN h1 v6 2 fun v7 =>
pBox h1 99 (.agg [(.int .u64 (.ofNat 0)), (.bool false)]) fun v8 h9 =>
pStore h9 v8 v7 2 fun h10 =>
pFieldA v8 1 fun v11 =>
pLoad1 h10 v11 fun v12 =>
pCond v12 (
pFieldA v8 0 fun v13 =>
pLoad1 h10 v13 fun v14 =>
pInt .neq v14 a2 fun v15 =>
pCond v15 (
some ((.int .i64 (.ofNat 14)), h10)) (
some ((.int .i64 (.ofNat 0)), h10))) (
pNil a0 fun v16 =>
pFieldA v16 0 fun v17 =>
pLoad1 h10 v17 fun v18 =>
pBuild [(.int .u64 (.ofNat 0)), (.bool false)] [(0, 1, a2), (1, 1, (.bool true))] fun v19 =>
pIdxS v18 a1 2 fun v20 =>
pStore h10 v20 v19 2 fun h21 =>
pNil a0 fun v22 =>
pFieldA v22 1 fun v23 =>
pLoad1 h21 v23 fun v24 =>
pBuildS h21 3 [(.int .i64 (.ofNat 0))] 1 [(0, 1, a1)] fun v25 h26 =>
pAppend h26 3 1 v24 v25 fun v27 h28 =>
pNil a0 fun v29 =>
pFieldA v29 1 fun v30 =>
pStore h28 v30 v27 1 fun h31 =>
some ((.int .i64 (.ofNat 0)), h31)))
theorem S23_eq (c : CV) (a0 a1 a2 : AV) (h : AH) : enterK Try.prog NN P23 c 23 [a0, a1, a2] h = S23 c a0 a1 a2 h := by kernel_rfl
def W23 (c : CV) (l : List AV) (h : AH) : R := match l with | [a0, a1, a2] => S23 c a0 a1 a2 h | _ => none
theorem W23_ok : WOk Try.prog 23 W23 := by
  intro c l h r e
  unfold W23 at e
  split at e
  · exact ⟨P23, by rw [S23_eq]; exact e⟩
  · cases e
/- (*quietus/view.View).Known -/
def P24 : Pl := (.n none .z (.n none .z (.n none (.n none .z (.n none (.n (some [17, 16, 15, 3, 0]) .z .z) .z)) .z)))
def S24 (_ : CV) (a0 : AV) (h : AH) : R :=
pNil a0 fun v0 =>
pFieldA v0 1 fun v1 =>
pLoad1 h v1 fun v2 =>
pLenS v2 fun v3 =>
pMake h 53 [(.int .i64 (.ofNat 0)), (.int .u64 (.ofNat 0))] (.int .i64 (.ofNat 0)) v3 fun v4 h5 =>
pNil a0 fun v6 =>
pFieldA v6 1 fun v7 =>
pLoad1 h5 v7 fun v8 =>
pLenS v8 fun v9 =>
loopC (σ := AV × AV × AV × AV × AV × Unit) NN (fun i13 s10 h11 d12 =>
pInt .lss s10.1 s10.2.1 fun v14 =>
pCond v14 (
pIdxS s10.2.2.1 s10.1 1 fun v15 =>
pLoad1 h11 v15 fun v16 =>
pNil s10.2.2.2.2.1 fun v17 =>
pFieldA v17 0 fun v18 =>
pLoad1 h11 v18 fun v19 =>
pIdxS v19 v16 2 fun v20 =>
pFieldA v20 0 fun v21 =>
pLoad1 h11 v21 fun v22 =>
pBuild [(.int .i64 (.ofNat 0)), (.int .u64 (.ofNat 0))] [(0, 1, v16), (1, 1, v22)] fun v23 =>
pBuildS h11 53 [(.int .i64 (.ofNat 0)), (.int .u64 (.ofNat 0))] 1 [(0, 2, v23)] fun v24 h25 =>
pAppend h25 53 2 s10.2.2.2.1 v24 fun v26 h27 =>
pInt .add s10.1 (.int .i64 (.ofNat 1)) fun v28 =>
i13 (v28, s10.2.1, s10.2.2.1, v26, s10.2.2.2.2.1, ()) h27 d12) (
pLeave d12 h11 fun h29 =>
some (s10.2.2.2.1, h29))) ((.int .i64 (.ofNat 0)), v9, v8, v4, a0, ()) h5 []
theorem S24_eq (c : CV) (a0 : AV) (h : AH) : enterK Try.prog NN P24 c 24 [a0] h = S24 c a0 h := by kernel_rfl
def W24 (c : CV) (l : List AV) (h : AH) : R := match l with | [a0] => S24 c a0 h | _ => none
theorem W24_ok : WOk Try.prog 24 W24 := by
  intro c l h r e
  unfold W24 at e
  split at e
  · exact ⟨P24, by rw [S24_eq]; exact e⟩
  · cases e
/- quietus/arena.Blocks -/
def P25 : Pl := (.n none .z (.n none .z (.n none (.n none (.r [[17, 15, 4, 0], [23, 19, 4, 0], [31, 25, 0]]) .z) (.n none .z (.n none .z (.n none (.n none .z (.n none (.n (some [7, 6, 5, 0]) (.n none .z (.n none (.n none .z (.n none .z (.n none (.n none (.r [[58, 55, 10, 9, 8, 7, 6, 5, 0]]) .z) .z))) .z)) .z) .z)) .z))))))
def S25 (c : CV) (a0 : AV) (h : AH) : R :=
pLenS a0 fun v0 =>
pInt .lss v0 (.int .i64 (.ofNat 32)) fun v1 =>
joinC (α := AV × AV × AV × AV × Unit → AH → R) (fun s2 h3 =>
pPick s2.2.1 (.bool true) s2.1 fun v5 =>
joinC (α := AV × AV × AV × AV × Unit → AH → R) (fun s6 h7 =>
pPick s6.2.1 (.bool true) s6.1 fun v9 =>
joinC (α := AV × AV × AV × Unit → AH → R) (fun s10 h11 =>
pPick s10.2.1 (.bool true) s10.1 fun v13 =>
pCond v13 (
some ((.tup [.nils, (.int .i64 (.ofNat 12))]), h11)) (
pIdxS s10.2.2.1 (.int .i64 (.ofNat 5)) 1 fun v14 =>
pLoad1 h11 v14 fun v15 =>
pConvI .i64 v15 fun v16 =>
loopC (σ := AV × AV × AV × AV × Unit) NN (fun i20 s17 h18 d19 =>
pInt .lss s17.1 s17.2.2.1 fun v21 =>
pCond v21 (
pIdxS s17.2.2.2.1 s17.1 1 fun v22 =>
pLoad1 h18 v22 fun v23 =>
pCall c (.fn 54 [] []) [v23] h18 fun v24 h25 =>
pExtract v24 0 fun v26 =>
pExtract v24 1 fun v27 =>
pInt .add s17.1 (.int .i64 (.ofNat 1)) fun v28 =>
pCall c (.fn 26 [] []) [v26] h25 fun v29 h30 =>
pInt .add v28 v29 fun v31 =>
pInt .eql v26 (.int .i64 (.ofNat 0)) fun v32 =>
joinC (α := AV × AV × AV × AV × AV × AV × AV × AV × AV × Unit → AH → R) (fun s33 h34 =>
pPick s33.2.1 (.bool true) s33.1 fun v36 =>
pCond v36 (
pLeave d19 h34 fun h37 =>
some ((.tup [.nils, (.int .i64 (.ofNat 12))]), h37)) (
pInt .add s33.2.2.2.2.2.1 (.int .i64 (.ofNat 1)) fun v38 =>
pBuild [(.int .i64 (.ofNat 0)), (.int .i64 (.ofNat 0)), (.bool false)] [(0, 1, v38), (1, 1, s33.2.2.2.2.1), (2, 1, s33.2.2.2.1)] fun v39 =>
pBuildS h34 66 [(.int .i64 (.ofNat 0)), (.int .i64 (.ofNat 0)), (.bool false)] 1 [(0, 3, v39)] fun v40 h41 =>
pAppend h41 66 3 s33.2.2.2.2.2.2.1 v40 fun v42 h43 =>
i20 (s33.2.2.1, v42, s33.2.2.2.2.2.2.2.1, s33.2.2.2.2.2.2.2.2.1, ()) h43 d19)) fun j35 =>
pWant v32 false (
pInt .gtr v31 s17.2.2.1 fun v44 =>
j35 (v44, v32, v31, v27, v26, s17.1, s17.2.1, s17.2.2.1, s17.2.2.2.1, ()) h30) (
j35 (.undef, v32, v31, v27, v26, s17.1, s17.2.1, s17.2.2.1, s17.2.2.2.1, ()) h30)) (
pLeave d19 h18 fun h45 =>
some ((.tup [s17.2.1, (.int .i64 (.ofNat 0))]), h45))) ((.int .i64 (.ofNat 14)), .nils, v16, s10.2.2.1, ()) h11 [])) fun j12 =>
pWant v9 false (
pIdxS s6.2.2.2.1 (.int .i64 (.ofNat 5)) 1 fun v46 =>
pLoad1 h7 v46 fun v47 =>
pConvI .u64 s6.2.2.1 fun v48 =>
pInt .gtr v47 v48 fun v49 =>
j12 (v49, v9, s6.2.2.2.1, ()) h7) (
j12 (.undef, v9, s6.2.2.2.1, ()) h7)) fun j8 =>
pWant v5 false (
pIdxS s2.2.2.2.1 (.int .i64 (.ofNat 5)) 1 fun v50 =>
pLoad1 h3 v50 fun v51 =>
pInt .lss v51 (.int .u64 (.ofNat 14)) fun v52 =>
j8 (v52, v5, s2.2.2.1, s2.2.2.2.1, ()) h3) (
j8 (.undef, v5, s2.2.2.1, s2.2.2.2.1, ()) h3)) fun j4 =>
pWant v1 false (
pInt .gtr v0 (.int .i64 (.ofNat 256)) fun v53 =>
j4 (v53, v1, v0, a0, ()) h) (
j4 (.undef, v1, v0, a0, ()) h)
theorem S25_eq (c : CV) (a0 : AV) (h : AH) : enterK Try.prog NN P25 c 25 [a0] h = S25 c a0 h := by kernel_rfl
def W25 (c : CV) (l : List AV) (h : AH) : R := match l with | [a0] => S25 c a0 h | _ => none
theorem W25_ok : WOk Try.prog 25 W25 := by
  intro c l h r e
  unfold W25 at e
  split at e
  · exact ⟨P25, by rw [S25_eq]; exact e⟩
  · cases e
/- quietus/arena.Size -/
def P26 : Pl := (.n none .z (.n none (.n none (.r [[7, 5, 0]]) .z) .z))
def S26 (_ : CV) (a0 : AV) (h : AH) : R :=
pInt .lss a0 (.int .i64 (.ofNat 1)) fun v0 =>
joinC (α := AV × AV × AV × Unit → AH → R) (fun s1 h2 =>
pPick s1.2.1 (.bool true) s1.1 fun v4 =>
pCond v4 (
some ((.int .i64 (.ofNat 0)), h2)) (
pShift .shl (.int .i64 (.ofNat 1)) s1.2.2.1 fun v5 =>
some (v5, h2))) fun j3 =>
pWant v0 false (
pInt .gtr a0 (.int .i64 (.ofNat 4)) fun v6 =>
j3 (v6, v0, a0, ()) h) (
j3 (.undef, v0, a0, ()) h)
theorem S26_eq (c : CV) (a0 : AV) (h : AH) : enterK Try.prog NN P26 c 26 [a0] h = S26 c a0 h := by kernel_rfl
def W26 (c : CV) (l : List AV) (h : AH) : R := match l with | [a0] => S26 c a0 h | _ => none
theorem W26_ok : WOk Try.prog 26 W26 := by
  intro c l h r e
  unfold W26 at e
  split at e
  · exact ⟨P26, by rw [S26_eq]; exact e⟩
  · cases e
/- quietus/arena.Lists -/
def P27 : Pl := (.n none .z (.n none .z (.n none .z (.n none .z (.n none (.n none .z (.n none (.n (some [7, 6, 4, 0]) (.n none .z (.n none (.n none (.n none .z (.n none (.n (some [8, 7, 6, 4, 0]) (.n none .z (.n none (.n none (.n none .z (.n none (.n none (.r [[46, 35, 9, 8, 7, 6, 4, 0]]) .z) (.n none (.r [[9, 8, 7, 6, 4, 0]]) .z))) .z) .z)) .z) .z)) .z) .z)) .z) .z)) .z)))))
def S27 (c : CV) (a0 : AV) (h : AH) : R :=
pCall c (.fn 25 [] []) [a0] h fun v0 h1 =>
pExtract v0 0 fun v2 =>
pExtract v0 1 fun v3 =>
pInt .neq v3 (.int .i64 (.ofNat 0)) fun v4 =>
pCond v4 (
some ((.tup [.nils, v3]), h1)) (
pMake h1 57 [.nils] (.int .i64 (.ofNat 4)) (.int .i64 (.ofNat 4)) fun v5 h6 =>
pBox h6 3 (.int .i64 (.ofNat 0)) fun v7 h8 =>
pStore h8 v7 (.int .i64 (.ofNat 1)) 1 fun h9 =>
loopC (σ := AV × AV × AV × AV × Unit) NN (fun i13 s10 h11 d12 =>
pLoad1 h11 s10.1 fun v14 =>
pInt .leq v14 (.int .i64 (.ofNat 4)) fun v15 =>
pCond v15 (
pLoad1 h11 s10.1 fun v16 =>
pCall c (.fn 55 [] []) [v16] h11 fun v17 h18 =>
pIdxS s10.2.2.2.1 v17 1 fun v19 =>
pLoad1 h18 v19 fun v20 =>
pBox h18 28 (.int .u64 (.ofNat 0)) fun v21 h22 =>
pStore h22 v21 v20 1 fun h23 =>
loopC (σ := AV × AV × AV × AV × AV × Unit) NN (fun i27 s24 h25 d26 =>
pLoad1 h25 s24.1 fun v28 =>
pInt .neq v28 (.int .u64 (.ofNat 0)) fun v29 =>
pCond v29 (
pCall c (.fn 56 [] []) [s24.2.2.2.1, (.fn 57 [] [s24.1, s24.2.1])] h25 fun v30 h31 =>
pInt .lss v30 (.int .i64 (.ofNat 0)) fun v32 =>
joinC (α := AV × AV × AV × AV × AV × AV × AV × AV × Unit → AH → R) (fun s33 h34 =>
pPick s33.2.1 (.bool true) s33.1 fun v36 =>
pCond v36 (
pLeave d26 h34 fun h37 =>
some ((.tup [.nils, (.int .i64 (.ofNat 12))]), h37)) (
joinC (α := AV × AV × AV × AV × AV × AV × Unit → AH → R) (fun s38 h39 =>
pIdxS s38.2.2.2.2.1 s38.1 3 fun v41 =>
pFieldA v41 0 fun v42 =>
pLoad1 h39 v42 fun v43 =>
pIdxS s38.2.2.2.2.2.1 v43 1 fun v44 =>
pLoad1 h39 v44 fun v45 =>
pStore h39 s38.2.1 v45 1 fun h46 =>
pLoad1 h46 s38.2.1 fun v47 =>
pBox h46 28 (.int .u64 (.ofNat 0)) fun v48 h49 =>
pStore h49 v48 v47 1 fun h50 =>
i27 (v48, s38.2.2.1, s38.2.2.2.1, s38.2.2.2.2.1, s38.2.2.2.2.2.1, ()) h50 d26) fun j40 =>
pLoad1 h34 s33.2.2.2.2.1 fun v51 =>
pInt .sub v51 (.int .i64 (.ofNat 1)) fun v52 =>
pLoad1 h34 s33.2.2.2.2.1 fun v53 =>
pInt .sub v53 (.int .i64 (.ofNat 1)) fun v54 =>
pIdxS s33.2.2.2.2.2.1 v54 1 fun v55 =>
pLoad1 h34 v55 fun v56 =>
pIdxS s33.2.2.2.2.2.2.1 s33.2.2.1 3 fun v57 =>
pFieldA v57 0 fun v58 =>
pLoad1 h34 v58 fun v59 =>
pBuildS h34 3 [(.int .i64 (.ofNat 0))] 1 [(0, 1, v59)] fun v60 h61 =>
pAppend h61 3 1 v56 v60 fun v62 h63 =>
pIdxS s33.2.2.2.2.2.1 v52 1 fun v64 =>
pStore h63 v64 v62 1 fun h65 =>
pChk s33.2.2.2.2.1 none v51 h61 h63 h34.nx <|
j40 (s33.2.2.1, s33.2.2.2.1, s33.2.2.2.2.1, s33.2.2.2.2.2.1, s33.2.2.2.2.2.2.1, s33.2.2.2.2.2.2.2.1, ()) h65)) fun j35 =>
pWant v32 false (
pLoad1 h31 s24.2.1 fun v66 =>
pInt .sub v66 (.int .i64 (.ofNat 1)) fun v67 =>
pIdxS s24.2.2.1 v67 1 fun v68 =>
pLoad1 h31 v68 fun v69 =>
pIdxS s24.2.2.2.1 v30 3 fun v70 =>
pFieldA v70 0 fun v71 =>
pLoad1 h31 v71 fun v72 =>
pCall c (.fn 58 [] []) [v69, v72] h31 fun v73 h74 =>
j35 (v73, v32, v30, s24.1, s24.2.1, s24.2.2.1, s24.2.2.2.1, s24.2.2.2.2.1, ()) h74) (
j35 (.undef, v32, v30, s24.1, s24.2.1, s24.2.2.1, s24.2.2.2.1, s24.2.2.2.2.1, ()) h31)) (
pLoad1 h25 s24.2.1 fun v75 =>
pBox h25 3 (.int .i64 (.ofNat 0)) fun v76 h77 =>
pStore h77 v76 v75 1 fun h78 =>
pLoad1 h78 v76 fun v79 =>
pInt .add v79 (.int .i64 (.ofNat 1)) fun v80 =>
pStore h78 v76 v80 1 fun h81 =>
i13 (v76, s24.2.2.1, s24.2.2.2.1, s24.2.2.2.2.1, ()) h81 d26)) (v21, s10.1, s10.2.1, s10.2.2.1, s10.2.2.2.1, ()) h23 d12) (
pLeave d12 h11 fun h82 =>
some ((.tup [s10.2.1, (.int .i64 (.ofNat 0))]), h82))) (v7, v5, v2, a0, ()) h9 [])
theorem S27_eq (c : CV) (a0 : AV) (h : AH) : enterK Try.prog NN P27 c 27 [a0] h = S27 c a0 h := by kernel_rfl
def W27 (c : CV) (l : List AV) (h : AH) : R := match l with | [a0] => S27 c a0 h | _ => none
theorem W27_ok : WOk Try.prog 27 W27 := by
  intro c l h r e
  unfold W27 at e
  split at e
  · exact ⟨P27, by rw [S27_eq]; exact e⟩
  · cases e
/- quietus/quietuslaw19.live -/
def P28 : Pl := (.n none .z (.n none .z (.n none .z (.n none (.n none .z (.n none (.n (some [6, 5, 3]) (.n none .z (.n none (.n (some [6, 5, 3]) .z .z) .z)) .z) .z)) .z))))
def S28 (c : CV) (a0 : AV) (h : AH) : R :=
pCall c (.fn 25 [] []) [a0] h fun v0 h1 =>
pExtract v0 0 fun v2 =>
pExtract v0 1 fun _ =>
loopC (σ := AV × AV × AV × Unit) NN (fun i7 s4 h5 d6 =>
pLenS s4.2.2.1 fun v8 =>
pInt .lss s4.1 v8 fun v9 =>
pCond v9 (
joinC (α := AV × AV × AV × Unit → AH → List Nat → R) (fun s10 h11 d12 =>
pInt .add s10.1 (.int .i64 (.ofNat 1)) fun v14 =>
i7 (v14, s10.2.1, s10.2.2.1, ()) h11 d12) fun j13 =>
pIdxS s4.2.2.1 s4.1 3 fun v15 =>
pFieldA v15 2 fun v16 =>
pLoad1 h5 v16 fun v17 =>
pCond v17 (
pInt .add s4.2.1 (.int .i64 (.ofNat 1)) fun v18 =>
j13 (s4.1, v18, s4.2.2.1, ()) h5 d6) (
j13 (s4.1, s4.2.1, s4.2.2.1, ()) h5 d6)) (
pLeave d6 h5 fun h19 =>
some (s4.2.1, h19))) ((.int .i64 (.ofNat 0)), (.int .i64 (.ofNat 0)), v2, ()) h1 []
theorem S28_eq (c : CV) (a0 : AV) (h : AH) : enterK Try.prog NN P28 c 28 [a0] h = S28 c a0 h := by kernel_rfl
def W28 (c : CV) (l : List AV) (h : AH) : R := match l with | [a0] => S28 c a0 h | _ => none
theorem W28_ok : WOk Try.prog 28 W28 := by
  intro c l h r e
  unfold W28 at e
  split at e
  · exact ⟨P28, by rw [S28_eq]; exact e⟩
  · cases e
/- (*quietus/view.View).Size -/
def P29 : Pl := .z
def S29 (_ : CV) (a0 : AV) (h : AH) : R :=
pNil a0 fun v0 =>
pFieldA v0 0 fun v1 =>
pLoad1 h v1 fun v2 =>
pLenS v2 fun v3 =>
some (v3, h)
theorem S29_eq (c : CV) (a0 : AV) (h : AH) : enterK Try.prog NN P29 c 29 [a0] h = S29 c a0 h := by kernel_rfl
def W29 (c : CV) (l : List AV) (h : AH) : R := match l with | [a0] => S29 c a0 h | _ => none
theorem W29_ok : WOk Try.prog 29 W29 := by
  intro c l h r e
  unfold W29 at e
  split at e
  · exact ⟨P29, by rw [S29_eq]; exact e⟩
  · cases e
/- quietus/draft.Do -/
def P30 : Pl := (.n none .z (.n none (.n none (.r [[17, 15, 2, 0]]) .z) (.n none .z (.n none .z (.n none .z (.n none .z (.n none .z (.n none (.n none .z (.n none (.n (some [67, 66, 65, 0]) .z .z) .z)) .z))))))))
def S30 (c : CV) (a0 a1 a2 : AV) (h : AH) : R :=
pInt .lss a1 (.int .i64 (.ofNat 6)) fun v0 =>
joinC (α := AV × AV × AV × AV × Unit → AH → R) (fun s1 h2 =>
pPick s1.2.1 (.bool true) s1.1 fun v4 =>
pCond v4 (
some ((.int .i64 (.ofNat 2)), h2)) (
pCall c (.fn 59 [] []) [s1.2.2.2.1] h2 fun v5 h6 =>
pBuild [.nilp, (.int .i64 (.ofNat 0)), (.int .i64 (.ofNat 0))] [(0, 1, v5)] fun v7 =>
pBox h6 107 v7 fun v8 h9 =>
pCall c s1.2.2.1 [v8] h9 fun _ h11 =>
pNil v8 fun v12 =>
pFieldA v12 1 fun v13 =>
pLoad1 h11 v13 fun v14 =>
pInt .eql v14 (.int .i64 (.ofNat 11)) fun v15 =>
pCond v15 (
pNil v8 fun v16 =>
pFieldA v16 0 fun v17 =>
pLoad1 h11 v17 fun v18 =>
pCall c (.fn 22 [] []) [v18] h11 fun v19 h20 =>
pCall c (.fn 60 [] []) [s1.2.2.2.1, v19] h20 fun v21 h22 =>
pExtract v21 0 fun _ =>
pExtract v21 1 fun v24 =>
some (v24, h22)) (
pNil v8 fun v25 =>
pFieldA v25 1 fun v26 =>
pLoad1 h11 v26 fun v27 =>
pInt .neq v27 (.int .i64 (.ofNat 0)) fun v28 =>
pCond v28 (
pNil v8 fun v29 =>
pFieldA v29 1 fun v30 =>
pLoad1 h11 v30 fun v31 =>
some (v31, h11)) (
pNil v8 fun v32 =>
pFieldA v32 0 fun v33 =>
pLoad1 h11 v33 fun v34 =>
pCall c (.fn 18 [] []) [v34] h11 fun v35 h36 =>
pCall c (.fn 61 [] []) [s1.2.2.2.1, v35] h36 fun v37 h38 =>
pInt .neq v37 (.int .i64 (.ofNat 0)) fun v39 =>
pCond v39 (
some (v37, h38)) (
pNil v8 fun v40 =>
pFieldA v40 0 fun v41 =>
pLoad1 h38 v41 fun v42 =>
pCall c (.fn 20 [] []) [v42] h38 fun v43 h44 =>
pLenS v43 fun v45 =>
loopC (σ := AV × AV × AV × AV × Unit) NN (fun i49 s46 h47 d48 =>
pInt .lss s46.1 s46.2.1 fun v50 =>
pCond v50 (
pIdxS s46.2.2.1 s46.1 1 fun v51 =>
pLoad1 h47 v51 fun v52 =>
pCall c (.fn 62 [] []) [s46.2.2.2.1, v52] h47 fun _ h54 =>
pInt .add s46.1 (.int .i64 (.ofNat 1)) fun v55 =>
i49 (v55, s46.2.1, s46.2.2.1, s46.2.2.2.1, ()) h54 d48) (
pLeave d48 h47 fun h56 =>
some ((.int .i64 (.ofNat 0)), h56))) ((.int .i64 (.ofNat 0)), v45, v43, s1.2.2.2.1, ()) h44 []))))) fun j3 =>
pWant v0 false (
pInt .geq a1 (.int .i64 (.ofNat 14)) fun v57 =>
j3 (v57, v0, a2, a0, ()) h) (
j3 (.undef, v0, a2, a0, ()) h)
theorem S30_eq (c : CV) (a0 a1 a2 : AV) (h : AH) : enterK Try.prog NN P30 c 30 [a0, a1, a2] h = S30 c a0 a1 a2 h := by kernel_rfl
def W30 (c : CV) (l : List AV) (h : AH) : R := match l with | [a0, a1, a2] => S30 c a0 a1 a2 h | _ => none
theorem W30_ok : WOk Try.prog 30 W30 := by
  intro c l h r e
  unfold W30 at e
  split at e
  · exact ⟨P30, by rw [S30_eq]; exact e⟩
  · cases e
/- quietus/queue.Push$1 -/
def P31 : Pl := (.n none .z (.n (some [5, 4, 2, 0]) .z (.n none .z (.n none .z (.n none .z (.n (some [6, 4, 0]) .z .z))))))
def S31 (c : CV) (a0 a1 a2 : AV) (h : AH) : R :=
pLoad1 h a1 fun v0 =>
pCall c (.fn 32 [] []) [a0, v0] h fun v1 h2 =>
joinC (α := AV × AV × AV × AV × Unit → AH → List Nat → R) (fun s3 h4 d5 =>
pCall c (.fn 34 [] []) [s3.2.2.2.1, (.int .i64 (.ofNat 2))] h4 fun v7 h8 =>
pInt .add v7 (.int .i64 (.ofNat 0)) fun v9 =>
pLoad1 h8 s3.2.2.1 fun v10 =>
pCall c (.fn 36 [] []) [s3.2.2.2.1, v9, v10] h8 fun _ h12 =>
pInt .add v7 (.int .i64 (.ofNat 1)) fun v13 =>
pCall c (.fn 35 [] []) [s3.2.2.2.1, v13, (.int .i64 (.ofNat 0))] h12 fun _ h15 =>
joinC (α := AV × AV × AV × Unit → AH → List Nat → R) (fun s16 h17 d18 =>
pInt .add s16.2.1 (.int .i64 (.ofNat 1)) fun v20 =>
pCall c (.fn 35 [] []) [s16.2.2.1, v20, s16.1] h17 fun _ h22 =>
pLeave d18 h22 fun h23 =>
some ((.tup []), h23)) fun j19 =>
pInt .neq s3.1 (.int .i64 (.ofNat 0)) fun v24 =>
pCond v24 (
pInt .add s3.2.1 (.int .i64 (.ofNat 1)) fun v25 =>
pCall c (.fn 32 [] []) [s3.2.2.2.1, v25] h15 fun v26 h27 =>
pInt .add v26 (.int .i64 (.ofNat 1)) fun v28 =>
pCall c (.fn 35 [] []) [s3.2.2.2.1, v28, v7] h27 fun _ h30 =>
j19 (v7, s3.2.1, s3.2.2.2.1, ()) h30 d5) (
pInt .add s3.2.1 (.int .i64 (.ofNat 0)) fun v31 =>
pCall c (.fn 35 [] []) [s3.2.2.2.1, v31, v7] h15 fun _ h33 =>
j19 (v7, s3.2.1, s3.2.2.2.1, ()) h33 d5)) fun j6 =>
pInt .neq v1 (.int .i64 (.ofNat 0)) fun v34 =>
pCond v34 (
pInt .add v1 (.int .i64 (.ofNat 0)) fun v35 =>
pCall c (.fn 32 [] []) [a0, v35] h2 fun v36 h37 =>
j6 (v36, v1, a2, a0, ()) h37 []) (
pCall c (.fn 33 [] []) [a0] h2 fun v38 h39 =>
pCond v38 (
pCall c (.fn 34 [] []) [a0, (.int .i64 (.ofNat 2))] h39 fun v40 h41 =>
pLoad1 h41 a1 fun v42 =>
pCall c (.fn 35 [] []) [a0, v42, v40] h41 fun _ h44 =>
j6 ((.int .i64 (.ofNat 0)), v40, a2, a0, ()) h44 []) (
j6 ((.int .i64 (.ofNat 0)), v1, a2, a0, ()) h39 []))
theorem S31_eq (c : CV) (a0 a1 a2 : AV) (h : AH) : enterK Try.prog NN P31 c 31 [a0, a1, a2] h = S31 c a0 a1 a2 h := by kernel_rfl
def W31 (c : CV) (l : List AV) (h : AH) : R := match l with | [a0, a1, a2] => S31 c a0 a1 a2 h | _ => none
theorem W31_ok : WOk Try.prog 31 W31 := by
  intro c l h r e
  unfold W31 at e
  split at e
  · exact ⟨P31, by rw [S31_eq]; exact e⟩
  · cases e
/- (*quietus/draft.Draft).Place -/
def P32 : Pl := .z
def S32 (c : CV) (a0 a1 : AV) (h : AH) : R :=
pCall c (.fn 38 [] []) [a0, a1] h fun v0 h1 =>
pCall c (.fn 63 [] []) [a0, v0] h1 fun v2 h3 =>
some (v2, h3)
theorem S32_eq (c : CV) (a0 a1 : AV) (h : AH) : enterK Try.prog NN P32 c 32 [a0, a1] h = S32 c a0 a1 h := by kernel_rfl
def W32 (c : CV) (l : List AV) (h : AH) : R := match l with | [a0, a1] => S32 c a0 a1 h | _ => none
theorem W32_ok : WOk Try.prog 32 W32 := by
  intro c l h r e
  unfold W32 at e
  split at e
  · exact ⟨P32, by rw [S32_eq]; exact e⟩
  · cases e
/- (*quietus/draft.Draft).OK -/
def P33 : Pl := .z
def S33 (_ : CV) (a0 : AV) (h : AH) : R :=
pNil a0 fun v0 =>
pFieldA v0 1 fun v1 =>
pLoad1 h v1 fun v2 =>
pInt .eql v2 (.int .i64 (.ofNat 0)) fun v3 =>
some (v3, h)
theorem S33_eq (c : CV) (a0 : AV) (h : AH) : enterK Try.prog NN P33 c 33 [a0] h = S33 c a0 h := by kernel_rfl
def W33 (c : CV) (l : List AV) (h : AH) : R := match l with | [a0] => S33 c a0 h | _ => none
theorem W33_ok : WOk Try.prog 33 W33 := by
  intro c l h r e
  unfold W33 at e
  split at e
  · exact ⟨P33, by rw [S33_eq]; exact e⟩
  · cases e
/- (*quietus/draft.Draft).Alloc -/
def P34 : Pl := .z
def S34 (c : CV) (a0 a1 : AV) (h : AH) : R :=
pCall c (.fn 33 [] []) [a0] h fun v0 h1 =>
pUn .not v0 fun v2 =>
pCond v2 (
some ((.int .i64 (.ofNat 0)), h1)) (
pNil a0 fun v3 =>
pFieldA v3 0 fun v4 =>
pLoad1 h1 v4 fun v5 =>
pCall c (.fn 64 [] []) [v5, a1] h1 fun v6 h7 =>
pExtract v6 0 fun v8 =>
pExtract v6 1 fun v9 =>
pCall c (.fn 65 [] []) [a0, v9] h7 fun _ h11 =>
some (v8, h11))
theorem S34_eq (c : CV) (a0 a1 : AV) (h : AH) : enterK Try.prog NN P34 c 34 [a0, a1] h = S34 c a0 a1 h := by kernel_rfl
def W34 (c : CV) (l : List AV) (h : AH) : R := match l with | [a0, a1] => S34 c a0 a1 h | _ => none
theorem W34_ok : WOk Try.prog 34 W34 := by
  intro c l h r e
  unfold W34 at e
  split at e
  · exact ⟨P34, by rw [S34_eq]; exact e⟩
  · cases e
/- (*quietus/draft.Draft).Point -/
def P35 : Pl := .z
def S35 (c : CV) (a0 a1 a2 : AV) (h : AH) : R :=
pConvI .u64 a2 fun v0 =>
pCall c (.fn 36 [] []) [a0, a1, v0] h fun _ h2 =>
some ((.tup []), h2)
theorem S35_eq (c : CV) (a0 a1 a2 : AV) (h : AH) : enterK Try.prog NN P35 c 35 [a0, a1, a2] h = S35 c a0 a1 a2 h := by kernel_rfl
def W35 (c : CV) (l : List AV) (h : AH) : R := match l with | [a0, a1, a2] => S35 c a0 a1 a2 h | _ => none
theorem W35_ok : WOk Try.prog 35 W35 := by
  intro c l h r e
  unfold W35 at e
  split at e
  · exact ⟨P35, by rw [S35_eq]; exact e⟩
  · cases e
/- (*quietus/draft.Draft).Write -/
def P36 : Pl := .z
def S36 (c : CV) (a0 a1 a2 : AV) (h : AH) : R :=
pCall c (.fn 33 [] []) [a0] h fun v0 h1 =>
pCond v0 (
pNil a0 fun v2 =>
pFieldA v2 0 fun v3 =>
pLoad1 h1 v3 fun v4 =>
pCall c (.fn 66 [] []) [v4, a1, a2] h1 fun v5 h6 =>
pCall c (.fn 65 [] []) [a0, v5] h6 fun _ h8 =>
some ((.tup []), h8)) (
some ((.tup []), h1))
theorem S36_eq (c : CV) (a0 a1 a2 : AV) (h : AH) : enterK Try.prog NN P36 c 36 [a0, a1, a2] h = S36 c a0 a1 a2 h := by kernel_rfl
def W36 (c : CV) (l : List AV) (h : AH) : R := match l with | [a0, a1, a2] => S36 c a0 a1 a2 h | _ => none
theorem W36_ok : WOk Try.prog 36 W36 := by
  intro c l h r e
  unfold W36 at e
  split at e
  · exact ⟨P36, by rw [S36_eq]; exact e⟩
  · cases e
/- quietus/queue.Take$1 -/
def P37 : Pl := .z
def S37 (c : CV) (a0 a1 a2 a3 : AV) (h : AH) : R :=
pLoad1 h a1 fun v0 =>
pCall c (.fn 32 [] []) [a0, v0] h fun v1 h2 =>
pInt .eql v1 (.int .i64 (.ofNat 0)) fun v3 =>
pCond v3 (
some ((.tup []), h2)) (
pInt .add v1 (.int .i64 (.ofNat 0)) fun v4 =>
pCall c (.fn 32 [] []) [a0, v4] h2 fun v5 h6 =>
pInt .eql v5 (.int .i64 (.ofNat 0)) fun v7 =>
pCond v7 (
some ((.tup []), h6)) (
pInt .add v5 (.int .i64 (.ofNat 0)) fun v8 =>
pCall c (.fn 38 [] []) [a0, v8] h6 fun v9 h10 =>
pStore h10 a2 v9 1 fun h11 =>
pStore h11 a3 (.bool true) 1 fun h12 =>
pInt .add v1 (.int .i64 (.ofNat 0)) fun v13 =>
pInt .add v5 (.int .i64 (.ofNat 1)) fun v14 =>
pCall c (.fn 38 [] []) [a0, v14] h12 fun v15 h16 =>
pCall c (.fn 36 [] []) [a0, v13, v15] h16 fun _ h18 =>
pCall c (.fn 39 [] []) [a0, v5] h18 fun _ h20 =>
some ((.tup []), h20)))
theorem S37_eq (c : CV) (a0 a1 a2 a3 : AV) (h : AH) : enterK Try.prog NN P37 c 37 [a0, a1, a2, a3] h = S37 c a0 a1 a2 a3 h := by kernel_rfl
def W37 (c : CV) (l : List AV) (h : AH) : R := match l with | [a0, a1, a2, a3] => S37 c a0 a1 a2 a3 h | _ => none
theorem W37_ok : WOk Try.prog 37 W37 := by
  intro c l h r e
  unfold W37 at e
  split at e
  · exact ⟨P37, by rw [S37_eq]; exact e⟩
  · cases e
/- (*quietus/draft.Draft).Read -/
def P38 : Pl := .z
def S38 (c : CV) (a0 a1 : AV) (h : AH) : R :=
pCall c (.fn 33 [] []) [a0] h fun v0 h1 =>
pUn .not v0 fun v2 =>
pCond v2 (
some ((.int .u64 (.ofNat 0)), h1)) (
pNil a0 fun v3 =>
pFieldA v3 0 fun v4 =>
pLoad1 h1 v4 fun v5 =>
pCall c (.fn 60 [] []) [v5, a1] h1 fun v6 h7 =>
pExtract v6 0 fun v8 =>
pExtract v6 1 fun v9 =>
pCall c (.fn 65 [] []) [a0, v9] h7 fun _ h11 =>
some (v8, h11))
theorem S38_eq (c : CV) (a0 a1 : AV) (h : AH) : enterK Try.prog NN P38 c 38 [a0, a1] h = S38 c a0 a1 h := by kernel_rfl
def W38 (c : CV) (l : List AV) (h : AH) : R := match l with | [a0, a1] => S38 c a0 a1 h | _ => none
theorem W38_ok : WOk Try.prog 38 W38 := by
  intro c l h r e
  unfold W38 at e
  split at e
  · exact ⟨P38, by rw [S38_eq]; exact e⟩
  · cases e
/- (*quietus/draft.Draft).Free -/
def P39 : Pl := .z
def S39 (c : CV) (a0 a1 : AV) (h : AH) : R :=
pCall c (.fn 33 [] []) [a0] h fun v0 h1 =>
pCond v0 (
pNil a0 fun v2 =>
pFieldA v2 0 fun v3 =>
pLoad1 h1 v3 fun v4 =>
pCall c (.fn 67 [] []) [v4, a1] h1 fun v5 h6 =>
pCall c (.fn 65 [] []) [a0, v5] h6 fun _ h8 =>
some ((.tup []), h8)) (
some ((.tup []), h1))
theorem S39_eq (c : CV) (a0 a1 : AV) (h : AH) : enterK Try.prog NN P39 c 39 [a0, a1] h = S39 c a0 a1 h := by kernel_rfl
def W39 (c : CV) (l : List AV) (h : AH) : R := match l with | [a0, a1] => S39 c a0 a1 h | _ => none
theorem W39_ok : WOk Try.prog 39 W39 := by
  intro c l h r e
  unfold W39 at e
  split at e
  · exact ⟨P39, by rw [S39_eq]; exact e⟩
  · cases e
/- quietus/queue.All$1 -/
def P40 : Pl := (.n none .z (.n none .z (.n none .z (.n none (.n (some [5, 2, 0]) (.n none (.n none (.r [[19, 17, 5, 2, 0]]) .z) (.n none (.n none (.r [[5, 2, 0]]) .z) .z)) .z) .z))))
def S40 (c : CV) (a0 a1 a2 : AV) (h : AH) : R :=
pLoad1 h a1 fun v0 =>
pCall c (.fn 32 [] []) [a0, v0] h fun v1 h2 =>
pInt .eql v1 (.int .i64 (.ofNat 0)) fun v3 =>
pCond v3 (
some ((.tup []), h2)) (
pInt .add v1 (.int .i64 (.ofNat 0)) fun v4 =>
pCall c (.fn 32 [] []) [a0, v4] h2 fun v5 h6 =>
loopC (σ := AV × AV × AV × Unit) NN (fun i10 s7 h8 d9 =>
pInt .neq s7.1 (.int .i64 (.ofNat 0)) fun v11 =>
joinC (α := AV × AV × AV × AV × AV × Unit → AH → R) (fun s12 h13 =>
pPick s12.2.1 s12.1 (.bool false) fun v15 =>
pCond v15 (
joinC (α := AV × AV × AV × Unit → AH → R) (fun s16 h17 =>
pInt .add s16.1 (.int .i64 (.ofNat 1)) fun v19 =>
pCall c (.fn 32 [] []) [s16.2.2.1, v19] h17 fun v20 h21 =>
i10 (v20, s16.2.1, s16.2.2.1, ()) h21 d9) fun j18 =>
pLoad1 h13 s12.2.2.2.1 fun v22 =>
pInt .add s12.2.2.1 (.int .i64 (.ofNat 0)) fun v23 =>
pCall c (.fn 38 [] []) [s12.2.2.2.2.1, v23] h13 fun v24 h25 =>
pBuildS h25 28 [(.int .u64 (.ofNat 0))] 1 [(0, 1, v24)] fun v26 h27 =>
pAppend h27 28 1 v22 v26 fun v28 h29 =>
pStore h29 s12.2.2.2.1 v28 1 fun h30 =>
pChk s12.2.2.2.1 none v22 h13 h25 h13.nx <|
j18 (s12.2.2.1, s12.2.2.2.1, s12.2.2.2.2.1, ()) h30) (
pLeave d9 h13 fun h31 =>
some ((.tup []), h31))) fun j14 =>
pWant v11 true (
pCall c (.fn 41 [] []) [s7.2.2.1] h8 fun v32 h33 =>
j14 (v32, v11, s7.1, s7.2.1, s7.2.2.1, ()) h33) (
j14 (.undef, v11, s7.1, s7.2.1, s7.2.2.1, ()) h8)) (v5, a2, a0, ()) h6 [])
theorem S40_eq (c : CV) (a0 a1 a2 : AV) (h : AH) : enterK Try.prog NN P40 c 40 [a0, a1, a2] h = S40 c a0 a1 a2 h := by kernel_rfl
def W40 (c : CV) (l : List AV) (h : AH) : R := match l with | [a0, a1, a2] => S40 c a0 a1 a2 h | _ => none
theorem W40_ok : WOk Try.prog 40 W40 := by
  intro c l h r e
  unfold W40 at e
  split at e
  · exact ⟨P40, by rw [S40_eq]; exact e⟩
  · cases e
/- (*quietus/draft.Draft).Step -/
def P41 : Pl := (.n none .z (.n none .z (.n (some [0]) .z .z)))
def S41 (c : CV) (a0 : AV) (h : AH) : R :=
pNil a0 fun v0 =>
pFieldA v0 2 fun v1 =>
pLoad1 h v1 fun v2 =>
pInt .add v2 (.int .i64 (.ofNat 1)) fun v3 =>
pNil a0 fun v4 =>
pFieldA v4 2 fun v5 =>
pStore h v5 v3 1 fun h6 =>
joinC (α := AV × Unit → AH → List Nat → R) (fun s7 h8 d9 =>
pCall c (.fn 33 [] []) [s7.1] h8 fun v11 h12 =>
pLeave d9 h12 fun h13 =>
some (v11, h13)) fun j10 =>
pNil a0 fun v14 =>
pFieldA v14 2 fun v15 =>
pLoad1 h6 v15 fun v16 =>
pInt .gtr v16 (.int .i64 (.ofNat 2048)) fun v17 =>
pCond v17 (
pCall c (.fn 65 [] []) [a0, (.int .i64 (.ofNat 2))] h6 fun _ h19 =>
j10 (a0, ()) h19 []) (
j10 (a0, ()) h6 [])
theorem S41_eq (c : CV) (a0 : AV) (h : AH) : enterK Try.prog NN P41 c 41 [a0] h = S41 c a0 h := by kernel_rfl
def W41 (c : CV) (l : List AV) (h : AH) : R := match l with | [a0] => S41 c a0 h | _ => none
theorem W41_ok : WOk Try.prog 41 W41 := by
  intro c l h r e
  unfold W41 at e
  split at e
  · exact ⟨P41, by rw [S41_eq]; exact e⟩
  · cases e
/- (*quietus/quietuskeep.Objects).Do -/
def P42 : Pl := (.n none .z (.n none (.r [[8, 7, 6, 4, 3, 0]]) (.n none .z (.n none (.n none .z (.n (some [9, 4]) (.n none .z (.n none .z (.n (some [34, 20, 8, 7, 6, 4, 0]) .z (.n none .z (.n (some [42, 20, 8, 7, 6, 4, 0]) .z (.n none .z (.n none .z (.n none .z (.n (some [59, 20, 8, 7, 6, 4, 0]) .z .z))))))))) .z)) .z))))
def S42 (c : CV) (a0 a1 : AV) (h : AH) : R :=
pBox h 36 a1 fun v0 h1 =>
pBox h1 48 (.agg [(.int .i64 (.ofNat 0)), (.int .u64 (.ofNat 0))]) fun v2 h3 =>
joinC (α := AV × AV × AV × AV × AV × AV × Unit → AH → R) (fun s4 h5 =>
pLoadN h5 s4.2.2.2.2.1 4 fun v7 =>
pCall c (.fn 47 [] []) [v7] h5 fun v8 h9 =>
joinC (α := AV × AV × Unit → AH → List Nat → R) (fun s10 h11 d12 =>
pCond s10.1 (
pBuild [(.int .i64 (.ofNat 0)), (.int .u64 (.ofNat 0))] [(0, 1, (.int .i64 (.ofNat 2))), (1, 1, (.int .u64 (.ofNat 1)))] fun v14 =>
pStore h11 s10.2.1 v14 2 fun h15 =>
pLeave d12 h15 fun h16 =>
pLoadN h16 s10.2.1 2 fun v17 =>
some ((.tup [v17, (.bool true)]), h16)) (
pBuild [(.int .i64 (.ofNat 0)), (.int .u64 (.ofNat 0))] [(0, 1, (.int .i64 (.ofNat 2)))] fun v18 =>
pStore h11 s10.2.1 v18 2 fun h19 =>
pLeave d12 h19 fun h20 =>
pLoadN h20 s10.2.1 2 fun v21 =>
some ((.tup [v21, (.bool true)]), h20))) fun j13 =>
pInt .eql v8 (.int .i64 (.ofNat 1)) fun v22 =>
pCond v22 (
pCall c (.fn 69 [] []) [s4.2.2.2.2.2.1, s4.2.2.1, s4.2.1, (.int .u64 (.ofNat 0))] h9 fun v23 h24 =>
j13 (v23, s4.2.2.2.1, ()) h24 []) (
joinC (α := AV × AV × AV × AV × AV × AV × AV × Unit → AH → List Nat → R) (fun s25 h26 d27 =>
pCond s25.1 (
pCall c (.fn 69 [] []) [s25.2.2.2.2.2.2.1, s25.2.2.2.2.1, s25.2.2.2.1, s25.2.2.1] h26 fun v29 h30 =>
j13 (v29, s25.2.2.2.2.2.1, ()) h30 d27) (
joinC (α := AV × AV × AV × AV × AV × AV × AV × Unit → AH → List Nat → R) (fun s31 h32 d33 =>
pCond s31.1 (
pCall c (.fn 70 [] []) [s31.2.2.2.2.2.2.1, s31.2.2.2.2.1, s31.2.2.2.1] h32 fun v35 h36 =>
j13 (v35, s31.2.2.2.2.2.1, ()) h36 d33) (
pInt .eql s31.2.1 (.int .i64 (.ofNat 3)) fun v37 =>
pCond v37 (
pCall c (.fn 71 [] []) [s31.2.2.2.2.2.2.1, s31.2.2.2.2.1, s31.2.2.2.1] h32 fun v38 h39 =>
pExtract v38 0 fun _ =>
pExtract v38 1 fun v41 =>
j13 (v41, s31.2.2.2.2.2.1, ()) h39 d33) (
joinC (α := AV × AV × AV × AV × AV × AV × AV × Unit → AH → List Nat → R) (fun s42 h43 d44 =>
pCond s42.1 (
pCall c (.fn 71 [] []) [s42.2.2.2.2.2.2.1, s42.2.2.2.2.1, s42.2.2.2.1] h43 fun v46 h47 =>
pExtract v46 0 fun v48 =>
pExtract v46 1 fun v49 =>
pUn .not v49 fun v50 =>
pCond v50 (
pBuild [(.int .i64 (.ofNat 0)), (.int .u64 (.ofNat 0))] [(0, 1, (.int .i64 (.ofNat 3)))] fun v51 =>
pStore h47 s42.2.2.2.2.2.1 v51 2 fun h52 =>
pLeave d44 h52 fun h53 =>
pLoadN h53 s42.2.2.2.2.2.1 2 fun v54 =>
some ((.tup [v54, (.bool true)]), h53)) (
pNil s42.2.2.2.2.2.2.1 fun v55 =>
pFieldA v55 0 fun v56 =>
pIdxP v56 s42.2.2.2.2.1 8 1 fun v57 =>
pLoad1 h47 v57 fun v58 =>
pIdxS v58 v48 2 fun v59 =>
pFieldA v59 1 fun v60 =>
pLoad1 h47 v60 fun v61 =>
pBuild [(.int .i64 (.ofNat 0)), (.int .u64 (.ofNat 0))] [(0, 1, (.int .i64 (.ofNat 1))), (1, 1, v61)] fun v62 =>
pStore h47 s42.2.2.2.2.2.1 v62 2 fun h63 =>
pLeave d44 h63 fun h64 =>
pLoadN h64 s42.2.2.2.2.2.1 2 fun v65 =>
some ((.tup [v65, (.bool true)]), h64))) (
pInt .eql s42.2.1 (.int .i64 (.ofNat 7)) fun v66 =>
pCond v66 (
pNil s42.2.2.2.2.2.2.1 fun v67 =>
pFieldA v67 0 fun v68 =>
pIdxP v68 s42.2.2.2.2.1 8 1 fun v69 =>
pLoad1 h43 v69 fun v70 =>
pAppend h43 88 2 .nils v70 fun v71 h72 =>
pBuild [(.int .u64 (.ofNat 0)), (.int .u64 (.ofNat 0))] [(1, 1, s42.2.2.2.1)] fun v73 =>
pBuildS h72 88 [(.int .u64 (.ofNat 0)), (.int .u64 (.ofNat 0))] 1 [(0, 2, v73)] fun v74 h75 =>
pAppend h75 88 2 v71 v74 fun v76 h77 =>
pNil s42.2.2.2.2.2.2.1 fun v78 =>
pFieldA v78 0 fun v79 =>
pIdxP v79 s42.2.2.2.2.1 8 1 fun v80 =>
pStore h77 v80 v76 1 fun h81 =>
pBuild [(.int .i64 (.ofNat 0)), (.int .u64 (.ofNat 0))] [(0, 1, (.int .i64 (.ofNat 3)))] fun v82 =>
pStore h81 s42.2.2.2.2.2.1 v82 2 fun h83 =>
pLeave d44 h83 fun h84 =>
pLoadN h84 s42.2.2.2.2.2.1 2 fun v85 =>
some ((.tup [v85, (.bool true)]), h84)) (
pInt .eql s42.2.1 (.int .i64 (.ofNat 8)) fun v86 =>
pCond v86 (
pNil s42.2.2.2.2.2.2.1 fun v87 =>
pFieldA v87 0 fun v88 =>
pIdxP v88 s42.2.2.2.2.1 8 1 fun v89 =>
pLoad1 h43 v89 fun v90 =>
pLenS v90 fun v91 =>
pInt .eql v91 (.int .i64 (.ofNat 0)) fun v92 =>
pCond v92 (
pBuild [(.int .i64 (.ofNat 0)), (.int .u64 (.ofNat 0))] [] fun v93 =>
pStore h43 s42.2.2.2.2.2.1 v93 2 fun h94 =>
pLeave d44 h94 fun h95 =>
pLoadN h95 s42.2.2.2.2.2.1 2 fun v96 =>
some ((.tup [v96, (.bool false)]), h95)) (
pNil s42.2.2.2.2.2.2.1 fun v97 =>
pFieldA v97 0 fun v98 =>
pIdxP v98 s42.2.2.2.2.1 8 1 fun v99 =>
pLoad1 h43 v99 fun v100 =>
pIdxS v100 (.int .i64 (.ofNat 0)) 2 fun v101 =>
pFieldA v101 1 fun v102 =>
pLoad1 h43 v102 fun v103 =>
pNil s42.2.2.2.2.2.2.1 fun v104 =>
pFieldA v104 0 fun v105 =>
pIdxP v105 s42.2.2.2.2.1 8 1 fun v106 =>
pLoad1 h43 v106 fun v107 =>
pSlice h43 88 2 v107 (some (.int .i64 (.ofNat 1))) none fun v108 =>
pAppend h43 88 2 .nils v108 fun v109 h110 =>
pNil s42.2.2.2.2.2.2.1 fun v111 =>
pFieldA v111 0 fun v112 =>
pIdxP v112 s42.2.2.2.2.1 8 1 fun v113 =>
pStore h110 v113 v109 1 fun h114 =>
pBuild [(.int .i64 (.ofNat 0)), (.int .u64 (.ofNat 0))] [(0, 1, (.int .i64 (.ofNat 1))), (1, 1, v103)] fun v115 =>
pStore h114 s42.2.2.2.2.2.1 v115 2 fun h116 =>
pLeave d44 h116 fun h117 =>
pLoadN h117 s42.2.2.2.2.2.1 2 fun v118 =>
some ((.tup [v118, (.bool true)]), h117))) (
pCall c (.fn 72 [] []) [s42.2.2.2.2.2.2.1, s42.2.2.2.2.1, s42.2.2.2.1, s42.2.2.1] h43 fun v119 h120 =>
pConvI .u64 v119 fun v121 =>
pBuild [(.int .i64 (.ofNat 0)), (.int .u64 (.ofNat 0))] [(0, 1, (.int .i64 (.ofNat 1))), (1, 1, v121)] fun v122 =>
pStore h120 s42.2.2.2.2.2.1 v122 2 fun h123 =>
pLeave d44 h123 fun h124 =>
pLoadN h124 s42.2.2.2.2.2.1 2 fun v125 =>
some ((.tup [v125, (.bool true)]), h124))))) fun j45 =>
pInt .eql s31.2.1 (.int .i64 (.ofNat 5)) fun v126 =>
pCond v126 (
j45 (v126, s31.2.1, s31.2.2.1, s31.2.2.2.1, s31.2.2.2.2.1, s31.2.2.2.2.2.1, s31.2.2.2.2.2.2.1, ()) h32 d33) (
pInt .eql s31.2.1 (.int .i64 (.ofNat 10)) fun v127 =>
j45 (v127, s31.2.1, s31.2.2.1, s31.2.2.2.1, s31.2.2.2.2.1, s31.2.2.2.2.2.1, s31.2.2.2.2.2.2.1, ()) h32 d33)))) fun j34 =>
pInt .eql s25.2.1 (.int .i64 (.ofNat 2)) fun v128 =>
pCond v128 (
j34 (v128, s25.2.1, s25.2.2.1, s25.2.2.2.1, s25.2.2.2.2.1, s25.2.2.2.2.2.1, s25.2.2.2.2.2.2.1, ()) h26 d27) (
pInt .eql s25.2.1 (.int .i64 (.ofNat 6)) fun v129 =>
pCond v129 (
j34 (v129, s25.2.1, s25.2.2.1, s25.2.2.2.1, s25.2.2.2.2.1, s25.2.2.2.2.2.1, s25.2.2.2.2.2.2.1, ()) h26 d27) (
pInt .eql s25.2.1 (.int .i64 (.ofNat 11)) fun v130 =>
j34 (v130, s25.2.1, s25.2.2.1, s25.2.2.2.1, s25.2.2.2.2.1, s25.2.2.2.2.2.1, s25.2.2.2.2.2.2.1, ()) h26 d27)))) fun j28 =>
pInt .eql v8 (.int .i64 (.ofNat 4)) fun v131 =>
pCond v131 (
j28 (v131, v8, s4.1, s4.2.1, s4.2.2.1, s4.2.2.2.1, s4.2.2.2.2.2.1, ()) h9 []) (
pInt .eql v8 (.int .i64 (.ofNat 9)) fun v132 =>
j28 (v132, v8, s4.1, s4.2.1, s4.2.2.1, s4.2.2.2.1, s4.2.2.2.2.2.1, ()) h9 []))) fun j6 =>
pLoadN h3 v0 4 fun v133 =>
pCall c (.fn 14 [] []) [v133] h3 fun v134 h135 =>
pLoadN h135 v0 4 fun v136 =>
pCall c (.fn 49 [] []) [v136] h135 fun v137 h138 =>
pLoadN h138 v0 4 fun v139 =>
pCall c (.fn 68 [] []) [v139] h138 fun v140 h141 =>
pChk v0 (some 4) v139 h135 h138 h3.nx <|
pChk v0 (some 4) v139 h3 h135 h3.nx <|
pChk v0 (some 4) v136 h3 h135 h3.nx <|
j6 (v140, v137, v134, v2, v0, a0, ()) h141
theorem S42_eq (c : CV) (a0 a1 : AV) (h : AH) : enterK Try.prog NN P42 c 42 [a0, a1] h = S42 c a0 a1 h := by kernel_rfl
def W42 (c : CV) (l : List AV) (h : AH) : R := match l with | [a0, a1] => S42 c a0 a1 h | _ => none
theorem W42_ok : WOk Try.prog 42 W42 := by
  intro c l h r e
  unfold W42 at e
  split at e
  · exact ⟨P42, by rw [S42_eq]; exact e⟩
  · cases e
/- quietus/quietuslaw19.settle -/
def P43 : Pl := (.n none .z (.n none .z (.n none .z (.n none (.n none .z (.n none (.n (some [7, 6, 0]) (.n none .z (.n none (.n none (.n none .z (.n none (.n none (.r [[32, 25, 8, 7, 6, 0]]) .z) .z)) .z) .z)) .z) .z)) .z))))
def S43 (c : CV) (a0 a1 : AV) (h : AH) : R :=
pCall c (.fn 18 [] []) [a1] h fun v0 h1 =>
pCall c (.fn 73 [] []) [a0, v0] h1 fun v2 h3 =>
pCall c (.fn 20 [] []) [a1] h3 fun v4 h5 =>
loopC (σ := AV × AV × AV × Unit) NN (fun i9 s6 h7 d8 =>
pLenS s6.2.1 fun v10 =>
pInt .lss s6.1 v10 fun v11 =>
pCond v11 (
pCall c (.fn 7 [] []) [s6.2.2.1, (.int .i64 (.ofNat 96))] h7 fun v12 h13 =>
pEq .ptr false v12 .nilp fun v14 =>
joinC (α := AV × AV × AV × AV × AV × AV × Unit → AH → R) (fun s15 h16 =>
pPick s15.2.1 (.bool true) s15.1 fun v18 =>
pCond v18 (
pLeave d8 h16 fun h19 =>
some ((.tup [s15.2.2.2.2.2.1, (.bool false)]), h19)) (
pCall c (.fn 18 [] []) [s15.2.2.1] h16 fun v20 h21 =>
pCall c (.fn 73 [] []) [s15.2.2.2.2.2.1, v20] h21 fun v22 h23 =>
pInt .add s15.2.2.2.1 (.int .i64 (.ofNat 1)) fun v24 =>
i9 (v24, s15.2.2.2.2.1, v22, ()) h23 d8)) fun j17 =>
pWant v14 false (
pIdxS s6.2.1 s6.1 1 fun v25 =>
pLoad1 h13 v25 fun v26 =>
pCall c (.fn 74 [] []) [v12, v26] h13 fun v27 h28 =>
pInt .neq v27 (.int .i64 (.ofNat 0)) fun v29 =>
j17 (v29, v14, v12, s6.1, s6.2.1, s6.2.2.1, ()) h28) (
j17 (.undef, v14, v12, s6.1, s6.2.1, s6.2.2.1, ()) h13)) (
pLeave d8 h7 fun h30 =>
some ((.tup [s6.2.2.1, (.bool true)]), h30))) ((.int .i64 (.ofNat 0)), v4, v2, ()) h5 []
theorem S43_eq (c : CV) (a0 a1 : AV) (h : AH) : enterK Try.prog NN P43 c 43 [a0, a1] h = S43 c a0 a1 h := by kernel_rfl
def W43 (c : CV) (l : List AV) (h : AH) : R := match l with | [a0, a1] => S43 c a0 a1 h | _ => none
theorem W43_ok : WOk Try.prog 43 W43 := by
  intro c l h r e
  unfold W43 at e
  split at e
  · exact ⟨P43, by rw [S43_eq]; exact e⟩
  · cases e
/- quietus/quietuslaw19.all -/
def P44 : Pl := (.n none .z (.n none .z (.n none .z (.n none (.n none .z (.n none (.n (some [9, 8, 7, 6]) .z .z) .z)) .z))))
def S44 (c : CV) (a0 a1 : AV) (h : AH) : R :=
pCall c (.fn 11 [] []) [a0, a1] h fun v0 h1 =>
pExtract v0 0 fun v2 =>
pExtract v0 1 fun v3 =>
loopC (σ := AV × AV × AV × AV × Unit) NN (fun i7 s4 h5 d6 =>
pLenS s4.2.2.2.1 fun v8 =>
pInt .lss s4.1 v8 fun v9 =>
pCond v9 (
pIdxS s4.2.2.2.1 s4.1 1 fun v10 =>
pLoad1 h5 v10 fun v11 =>
pBuild [(.int .u64 (.ofNat 0)), (.int .u64 (.ofNat 0))] [(1, 1, v11)] fun v12 =>
pBuildS h5 88 [(.int .u64 (.ofNat 0)), (.int .u64 (.ofNat 0))] 1 [(0, 2, v12)] fun v13 h14 =>
pAppend h14 88 2 s4.2.1 v13 fun v15 h16 =>
pInt .add s4.1 (.int .i64 (.ofNat 1)) fun v17 =>
i7 (v17, v15, s4.2.2.1, s4.2.2.2.1, ()) h16 d6) (
pLeave d6 h5 fun h18 =>
some ((.tup [s4.2.1, s4.2.2.1]), h18))) ((.int .i64 (.ofNat 0)), .nils, v3, v2, ()) h1 []
theorem S44_eq (c : CV) (a0 a1 : AV) (h : AH) : enterK Try.prog NN P44 c 44 [a0, a1] h = S44 c a0 a1 h := by kernel_rfl
def W44 (c : CV) (l : List AV) (h : AH) : R := match l with | [a0, a1] => S44 c a0 a1 h | _ => none
theorem W44_ok : WOk Try.prog 44 W44 := by
  intro c l h r e
  unfold W44 at e
  split at e
  · exact ⟨P44, by rw [S44_eq]; exact e⟩
  · cases e
/- quietus/quietusbook.Same[quietus/api.Pair] -/
def P45 : Pl := (.n none .z (.n none .z (.n none (.n none .z (.n none (.n (some [5, 1, 0]) .z .z) .z)) .z)))
def S45 (_ : CV) (a0 a1 : AV) (h : AH) : R :=
pLenS a0 fun v0 =>
pLenS a1 fun v1 =>
pInt .neq v0 v1 fun v2 =>
pCond v2 (
some ((.bool false), h)) (
loopC (σ := AV × AV × AV × Unit) NN (fun i6 s3 h4 d5 =>
pLenS s3.2.2.1 fun v7 =>
pInt .lss s3.1 v7 fun v8 =>
pCond v8 (
pIdxS s3.2.2.1 s3.1 2 fun v9 =>
pLoadN h4 v9 2 fun v10 =>
pIdxS s3.2.1 s3.1 2 fun v11 =>
pLoadN h4 v11 2 fun v12 =>
pEqS [.bas .int 0, .bas .int 1] true v10 v12 fun v13 =>
pCond v13 (
pLeave d5 h4 fun h14 =>
some ((.bool false), h14)) (
pInt .add s3.1 (.int .i64 (.ofNat 1)) fun v15 =>
i6 (v15, s3.2.1, s3.2.2.1, ()) h4 d5)) (
pLeave d5 h4 fun h16 =>
some ((.bool true), h16))) ((.int .i64 (.ofNat 0)), a1, a0, ()) h [])
theorem S45_eq (c : CV) (a0 a1 : AV) (h : AH) : enterK Try.prog NN P45 c 45 [a0, a1] h = S45 c a0 a1 h := by kernel_rfl
def W45 (c : CV) (l : List AV) (h : AH) : R := match l with | [a0, a1] => S45 c a0 a1 h | _ => none
theorem W45_ok : WOk Try.prog 45 W45 := by
  intro c l h r e
  unfold W45 at e
  split at e
  · exact ⟨P45, by rw [S45_eq]; exact e⟩
  · cases e
/- quietus/quietusbook.Within -/
def P46 : Pl := (.n none .z (.n none .z (.n (some [1, 0]) .z .z)))
def S46 (_ : CV) (a0 a1 a2 : AV) (h : AH) : R :=
pInt .sub a2 a1 fun v0 =>
pInt .add v0 (.int .i64 (.ofNat 1)) fun v1 =>
pInt .rem a0 v1 fun v2 =>
joinC (α := AV × AV × Unit → AH → List Nat → R) (fun s3 h4 d5 =>
pInt .add s3.1 s3.2.1 fun v7 =>
pLeave d5 h4 fun h8 =>
some (v7, h8)) fun j6 =>
pInt .lss v2 (.int .i64 (.ofNat 0)) fun v9 =>
pCond v9 (
pInt .add v2 a2 fun v10 =>
pInt .sub v10 a1 fun v11 =>
pInt .add v11 (.int .i64 (.ofNat 1)) fun v12 =>
j6 (a1, v12, ()) h []) (
j6 (a1, v2, ()) h [])
theorem S46_eq (c : CV) (a0 a1 a2 : AV) (h : AH) : enterK Try.prog NN P46 c 46 [a0, a1, a2] h = S46 c a0 a1 a2 h := by kernel_rfl
def W46 (c : CV) (l : List AV) (h : AH) : R := match l with | [a0, a1, a2] => S46 c a0 a1 a2 h | _ => none
theorem W46_ok : WOk Try.prog 46 W46 := by
  intro c l h r e
  unfold W46 at e
  split at e
  · exact ⟨P46, by rw [S46_eq]; exact e⟩
  · cases e
/- (quietus/quietuskeep.Call).Which -/
def P47 : Pl := (.n none .z (.n none (.n none (.r [[9, 6, 1]]) .z) .z))
def S47 (c : CV) (a0 : AV) (h : AH) : R :=
pBox h 36 a0 fun v0 h1 =>
pFieldA v0 0 fun v2 =>
pLoad1 h1 v2 fun v3 =>
pInt .geq v3 (.int .i64 (.ofNat 1)) fun v4 =>
joinC (α := AV × AV × AV × Unit → AH → R) (fun s5 h6 =>
pPick s5.2.1 s5.1 (.bool false) fun v8 =>
pCond v8 (
pFieldA s5.2.2.1 0 fun v9 =>
pLoad1 h6 v9 fun v10 =>
some (v10, h6)) (
pFieldA s5.2.2.1 0 fun v11 =>
pLoad1 h6 v11 fun v12 =>
pCall c (.fn 46 [] []) [v12, (.int .i64 (.ofNat 1)), (.int .i64 (.ofNat 12))] h6 fun v13 h14 =>
some (v13, h14))) fun j7 =>
pWant v4 true (
pFieldA v0 0 fun v15 =>
pLoad1 h1 v15 fun v16 =>
pInt .leq v16 (.int .i64 (.ofNat 12)) fun v17 =>
j7 (v17, v4, v0, ()) h1) (
j7 (.undef, v4, v0, ()) h1)
theorem S47_eq (c : CV) (a0 : AV) (h : AH) : enterK Try.prog NN P47 c 47 [a0] h = S47 c a0 h := by kernel_rfl
def W47 (c : CV) (l : List AV) (h : AH) : R := match l with | [a0] => S47 c a0 h | _ => none
theorem W47_ok : WOk Try.prog 47 W47 := by
  intro c l h r e
  unfold W47 at e
  split at e
  · exact ⟨P47, by rw [S47_eq]; exact e⟩
  · cases e
/- quietus/levels.New -/
def P48 : Pl := .z
def S48 (c : CV) (a0 : AV) (h : AH) : R :=
pMM false [a0, (.int .i64 (.ofNat 96))] fun v0 =>
pMM true [(.int .i64 (.ofNat 0)), v0] fun v1 =>
pCall c (.fn 75 [] []) [] h fun v2 h3 =>
pBuildS h3 121 [.nilp] 1 [(0, 1, v2)] fun v4 h5 =>
pBuild [(.int .i64 (.ofNat 0)), .nils] [(0, 1, v1), (1, 1, v4)] fun v6 =>
pBox h5 125 v6 fun v7 h8 =>
some (v7, h8)
theorem S48_eq (c : CV) (a0 : AV) (h : AH) : enterK Try.prog NN P48 c 48 [a0] h = S48 c a0 h := by kernel_rfl
def W48 (c : CV) (l : List AV) (h : AH) : R := match l with | [a0] => S48 c a0 h | _ => none
theorem W48_ok : WOk Try.prog 48 W48 := by
  intro c l h r e
  unfold W48 at e
  split at e
  · exact ⟨P48, by rw [S48_eq]; exact e⟩
  · cases e
/- (quietus/quietuskeep.Call).Key -/
def P49 : Pl := .z
def S49 (_ : CV) (a0 : AV) (h : AH) : R :=
pBox h 36 a0 fun v0 h1 =>
pFieldA v0 2 fun v2 =>
pLoad1 h1 v2 fun v3 =>
pInt .rem v3 (.int .u64 (.ofNat 12)) fun v4 =>
some (v4, h1)
theorem S49_eq (c : CV) (a0 : AV) (h : AH) : enterK Try.prog NN P49 c 49 [a0] h = S49 c a0 h := by kernel_rfl
def W49 (c : CV) (l : List AV) (h : AH) : R := match l with | [a0] => S49 c a0 h | _ => none
theorem W49_ok : WOk Try.prog 49 W49 := by
  intro c l h r e
  unfold W49 at e
  split at e
  · exact ⟨P49, by rw [S49_eq]; exact e⟩
  · cases e
/- (*quietus/levels.Levels).Cells -/
def P50 : Pl := (.n none .z (.n none .z (.n none (.n none .z (.n none (.n (some [3]) .z .z) .z)) .z)))
def S50 (c : CV) (a0 : AV) (h : AH) : R :=
pBox h 54 .nils fun v0 h1 =>
pNil a0 fun v2 =>
pFieldA v2 1 fun v3 =>
pLoad1 h1 v3 fun v4 =>
pCall c (.fn 76 [] []) [v4] h1 fun v5 h6 =>
pCallF c v5 [.yield (h6.new .dfd).nx] ((h6.new .dfd).new (.loop .ready none 50 [1, 1, 0, 1, 0] [3] [v0] h6.nx)) fun _ h7 =>
pEndLoop h7 (h6.new .dfd).nx fun p9 h8 =>
pNone p9 (
pLoad1 h8 v0 fun v10 =>
pLeave (h6.nx :: []) h8 fun h11 =>
some (v10, h11)) <|
none
theorem S50_eq (c : CV) (a0 : AV) (h : AH) : enterK Try.prog NN P50 c 50 [a0] h = S50 c a0 h := by kernel_rfl
def W50 (c : CV) (l : List AV) (h : AH) : R := match l with | [a0] => S50 c a0 h | _ => none
theorem W50_ok : WOk Try.prog 50 W50 := by
  intro c l h r e
  unfold W50 at e
  split at e
  · exact ⟨P50, by rw [S50_eq]; exact e⟩
  · cases e
/- (*quietus/levels.Levels).Frees -/
def P51 : Pl := (.n none .z (.n none .z (.n none (.n none .z (.n none (.n (some [11, 10, 9, 3]) .z .z) .z)) .z)))
def S51 (_ : CV) (a0 : AV) (h : AH) : R :=
pNil a0 fun v0 =>
pFieldA v0 1 fun v1 =>
pLoad1 h v1 fun v2 =>
pLenS v2 fun v3 =>
loopC (σ := AV × AV × AV × AV × Unit) NN (fun i7 s4 h5 d6 =>
pInt .lss s4.1 s4.2.1 fun v8 =>
pCond v8 (
pIdxS s4.2.2.1 s4.1 1 fun v9 =>
pLoad1 h5 v9 fun v10 =>
pNil v10 fun v11 =>
pFieldA v11 1 fun v12 =>
pLoad1 h5 v12 fun v13 =>
pAppend h5 3 1 s4.2.2.2.1 v13 fun v14 h15 =>
pInt .add s4.1 (.int .i64 (.ofNat 1)) fun v16 =>
i7 (v16, s4.2.1, s4.2.2.1, v14, ()) h15 d6) (
pLeave d6 h5 fun h17 =>
some (s4.2.2.2.1, h17))) ((.int .i64 (.ofNat 0)), v3, v2, .nils, ()) h []
theorem S51_eq (c : CV) (a0 : AV) (h : AH) : enterK Try.prog NN P51 c 51 [a0] h = S51 c a0 h := by kernel_rfl
def W51 (c : CV) (l : List AV) (h : AH) : R := match l with | [a0] => S51 c a0 h | _ => none
theorem W51_ok : WOk Try.prog 51 W51 := by
  intro c l h r e
  unfold W51 at e
  split at e
  · exact ⟨P51, by rw [S51_eq]; exact e⟩
  · cases e
/- (*quietus/levels.Levels).Depth -/
def P52 : Pl := .z
def S52 (_ : CV) (a0 : AV) (h : AH) : R :=
pNil a0 fun v0 =>
pFieldA v0 1 fun v1 =>
pLoad1 h v1 fun v2 =>
pLenS v2 fun v3 =>
some (v3, h)
theorem S52_eq (c : CV) (a0 : AV) (h : AH) : enterK Try.prog NN P52 c 52 [a0] h = S52 c a0 h := by kernel_rfl
def W52 (c : CV) (l : List AV) (h : AH) : R := match l with | [a0] => S52 c a0 h | _ => none
theorem W52_ok : WOk Try.prog 52 W52 := by
  intro c l h r e
  unfold W52 at e
  split at e
  · exact ⟨P52, by rw [S52_eq]; exact e⟩
  · cases e
/- (*quietus/view.View).is -/
def P53 : Pl := (.n none .z (.n none (.r [[14, 7]]) .z))
def S53 (_ : CV) (a0 a1 : AV) (h : AH) : R :=
pInt .geq a1 (.int .i64 (.ofNat 1)) fun v0 =>
joinC (α := AV × AV × Unit → AH → R) (fun s1 h2 =>
pPick s1.2.1 s1.1 (.bool false) fun v4 =>
some (v4, h2)) fun j3 =>
pWant v0 true (
pNil a0 fun v5 =>
pFieldA v5 0 fun v6 =>
pLoad1 h v6 fun v7 =>
pLenS v7 fun v8 =>
pInt .lss a1 v8 fun v9 =>
j3 (v9, v0, ()) h) (
j3 (.undef, v0, ()) h)
theorem S53_eq (c : CV) (a0 a1 : AV) (h : AH) : enterK Try.prog NN P53 c 53 [a0, a1] h = S53 c a0 a1 h := by kernel_rfl
def W53 (c : CV) (l : List AV) (h : AH) : R := match l with | [a0, a1] => S53 c a0 a1 h | _ => none
theorem W53_ok : WOk Try.prog 53 W53 := by
  intro c l h r e
  unfold W53 at e
  split at e
  · exact ⟨P53, by rw [S53_eq]; exact e⟩
  · cases e
/- quietus/arena.header -/
def P54 : Pl := (.n none .z (.n none (.n none (.n none (.r [[9, 7, 0]]) (.n none .z (.n none (.r [[18, 16, 0]]) .z))) .z) .z))
def S54 (_ : CV) (a0 : AV) (h : AH) : R :=
pInt .geq a0 (.int .u64 (.ofNat 1)) fun v0 =>
joinC (α := AV × AV × AV × Unit → AH → R) (fun s1 h2 =>
pPick s1.2.1 s1.1 (.bool false) fun v4 =>
pCond v4 (
pConvI .i64 s1.2.2.1 fun v5 =>
some ((.tup [v5, (.bool false)]), h2)) (
pInt .geq s1.2.2.1 (.int .u64 (.ofNat 9)) fun v6 =>
joinC (α := AV × AV × AV × Unit → AH → R) (fun s7 h8 =>
pPick s7.2.1 s7.1 (.bool false) fun v10 =>
pCond v10 (
pInt .sub s7.2.2.1 (.int .u64 (.ofNat 8)) fun v11 =>
pConvI .i64 v11 fun v12 =>
some ((.tup [v12, (.bool true)]), h8)) (
some ((.tup [(.int .i64 (.ofNat 0)), (.bool false)]), h8))) fun j9 =>
pWant v6 true (
pInt .leq s1.2.2.1 (.int .u64 (.ofNat 12)) fun v13 =>
j9 (v13, v6, s1.2.2.1, ()) h2) (
j9 (.undef, v6, s1.2.2.1, ()) h2))) fun j3 =>
pWant v0 true (
pInt .leq a0 (.int .u64 (.ofNat 4)) fun v14 =>
j3 (v14, v0, a0, ()) h) (
j3 (.undef, v0, a0, ()) h)
theorem S54_eq (c : CV) (a0 : AV) (h : AH) : enterK Try.prog NN P54 c 54 [a0] h = S54 c a0 h := by kernel_rfl
def W54 (c : CV) (l : List AV) (h : AH) : R := match l with | [a0] => S54 c a0 h | _ => none
theorem W54_ok : WOk Try.prog 54 W54 := by
  intro c l h r e
  unfold W54 at e
  split at e
  · exact ⟨P54, by rw [S54_eq]; exact e⟩
  · cases e
/- quietus/arena.head -/
def P55 : Pl := .z
def S55 (_ : CV) (a0 : AV) (h : AH) : R :=
pInt .add (.int .i64 (.ofNat 0)) a0 fun v0 =>
some (v0, h)
theorem S55_eq (c : CV) (a0 : AV) (h : AH) : enterK Try.prog NN P55 c 55 [a0] h = S55 c a0 h := by kernel_rfl
def W55 (c : CV) (l : List AV) (h : AH) : R := match l with | [a0] => S55 c a0 h | _ => none
theorem W55_ok : WOk Try.prog 55 W55 := by
  intro c l h r e
  unfold W55 at e
  split at e
  · exact ⟨P55, by rw [S55_eq]; exact e⟩
  · cases e
/- slices.IndexFunc[[]quietus/api.Block,quietus/api.Block] -/
def P56 : Pl := (.n none .z (.n none (.n none .z (.n none (.n (some [8, 7, 1, 0]) .z .z) .z)) .z))
def S56 (c : CV) (a0 a1 : AV) (h : AH) : R :=
pLenS a0 fun v0 =>
loopC (σ := AV × AV × AV × AV × Unit) NN (fun i4 s1 h2 d3 =>
pInt .lss s1.1 s1.2.1 fun v5 =>
pCond v5 (
pIdxS s1.2.2.2.1 s1.1 3 fun v6 =>
pLoadN h2 v6 3 fun v7 =>
pCall c s1.2.2.1 [v7] h2 fun v8 h9 =>
pCond v8 (
pLeave d3 h9 fun h10 =>
some (s1.1, h10)) (
pInt .add s1.1 (.int .i64 (.ofNat 1)) fun v11 =>
i4 (v11, s1.2.1, s1.2.2.1, s1.2.2.2.1, ()) h9 d3)) (
pLeave d3 h2 fun h12 =>
some ((.int .i64 (.negSucc 0)), h12))) ((.int .i64 (.ofNat 0)), v0, a1, a0, ()) h []
theorem S56_eq (c : CV) (a0 a1 : AV) (h : AH) : enterK Try.prog NN P56 c 56 [a0, a1] h = S56 c a0 a1 h := by kernel_rfl
def W56 (c : CV) (l : List AV) (h : AH) : R := match l with | [a0, a1] => S56 c a0 a1 h | _ => none
theorem W56_ok : WOk Try.prog 56 W56 := by
  intro c l h r e
  unfold W56 at e
  split at e
  · exact ⟨P56, by rw [S56_eq]; exact e⟩
  · cases e
/- quietus/arena.Lists$1 -/
def P57 : Pl := (.n none .z (.n none (.r [[14, 10, 3], [19, 16]]) .z))
def S57 (_ : CV) (a0 a1 a2 : AV) (h : AH) : R :=
pBox h 66 a0 fun v0 h1 =>
pFieldA v0 0 fun v2 =>
pLoad1 h1 v2 fun v3 =>
pConvI .u64 v3 fun v4 =>
pLoad1 h1 a1 fun v5 =>
pInt .eql v4 v5 fun v6 =>
joinC (α := AV × AV × AV × Unit → AH → R) (fun s7 h8 =>
pPick s7.2.1 s7.1 (.bool false) fun v10 =>
joinC (α := AV × AV × Unit → AH → R) (fun s11 h12 =>
pPick s11.2.1 s11.1 (.bool false) fun v14 =>
some (v14, h12)) fun j13 =>
pWant v10 true (
pFieldA s7.2.2.1 2 fun v15 =>
pLoad1 h8 v15 fun v16 =>
pUn .not v16 fun v17 =>
j13 (v17, v10, ()) h8) (
j13 (.undef, v10, ()) h8)) fun j9 =>
pWant v6 true (
pFieldA v0 1 fun v18 =>
pLoad1 h1 v18 fun v19 =>
pLoad1 h1 a2 fun v20 =>
pInt .eql v19 v20 fun v21 =>
j9 (v21, v6, v0, ()) h1) (
j9 (.undef, v6, v0, ()) h1)
theorem S57_eq (c : CV) (a0 a1 a2 : AV) (h : AH) : enterK Try.prog NN P57 c 57 [a0, a1, a2] h = S57 c a0 a1 a2 h := by kernel_rfl
def W57 (c : CV) (l : List AV) (h : AH) : R := match l with | [a0, a1, a2] => S57 c a0 a1 a2 h | _ => none
theorem W57_ok : WOk Try.prog 57 W57 := by
  intro c l h r e
  unfold W57 at e
  split at e
  · exact ⟨P57, by rw [S57_eq]; exact e⟩
  · cases e
/- slices.Contains[[]int,int] -/
def P58 : Pl := .z
def S58 (c : CV) (a0 a1 : AV) (h : AH) : R :=
pCall c (.fn 80 [] []) [a0, a1] h fun v0 h1 =>
pInt .geq v0 (.int .i64 (.ofNat 0)) fun v2 =>
some (v2, h1)
theorem S58_eq (c : CV) (a0 a1 : AV) (h : AH) : enterK Try.prog NN P58 c 58 [a0, a1] h = S58 c a0 a1 h := by kernel_rfl
def W58 (c : CV) (l : List AV) (h : AH) : R := match l with | [a0, a1] => S58 c a0 a1 h | _ => none
theorem W58_ok : WOk Try.prog 58 W58 := by
  intro c l h r e
  unfold W58 at e
  split at e
  · exact ⟨P58, by rw [S58_eq]; exact e⟩
  · cases e
/- quietus/draft.of -/
def P59 : Pl := (.n none .z (.n none .z (.n none (.n none .z (.n none (.n (some [14, 13, 12, 3, 0]) .z .z) .z)) (.n none (.n none .z (.n none (.n (some [28, 27, 26, 3]) .z .z) .z)) .z))))
def S59 (c : CV) (a0 : AV) (h : AH) : R :=
pCall c (.fn 29 [] []) [a0] h fun v0 h1 =>
pCall c (.fn 15 [] []) [v0, (.int .i64 (.ofNat 96))] h1 fun v2 h3 =>
pCall c (.fn 18 [] []) [a0] h3 fun v4 h5 =>
pLenS v4 fun v6 =>
loopC (σ := AV × AV × AV × AV × AV × Unit) NN (fun i10 s7 h8 d9 =>
pInt .lss s7.1 s7.2.1 fun v11 =>
pCond v11 (
pIdxS s7.2.2.1 s7.1 2 fun v12 =>
pLoadN h8 v12 2 fun v13 =>
pBox h8 53 (.agg [(.int .i64 (.ofNat 0)), (.int .u64 (.ofNat 0))]) fun v14 h15 =>
pStore h15 v14 v13 2 fun h16 =>
pFieldA v14 0 fun v17 =>
pLoad1 h16 v17 fun v18 =>
pFieldA v14 1 fun v19 =>
pLoad1 h16 v19 fun v20 =>
pCall c (.fn 23 [] []) [s7.2.2.2.1, v18, v20] h16 fun _ h22 =>
pInt .add s7.1 (.int .i64 (.ofNat 1)) fun v23 =>
i10 (v23, s7.2.1, s7.2.2.1, s7.2.2.2.1, s7.2.2.2.2.1, ()) h22 d9) (
pCall c (.fn 24 [] []) [s7.2.2.2.2.1] h8 fun v24 h25 =>
pLenS v24 fun v26 =>
loopC (σ := AV × AV × AV × AV × Unit) NN (fun i30 s27 h28 d29 =>
pInt .lss s27.1 s27.2.1 fun v31 =>
pCond v31 (
pIdxS s27.2.2.1 s27.1 2 fun v32 =>
pLoadN h28 v32 2 fun v33 =>
pBox h28 53 (.agg [(.int .i64 (.ofNat 0)), (.int .u64 (.ofNat 0))]) fun v34 h35 =>
pStore h35 v34 v33 2 fun h36 =>
pFieldA v34 0 fun v37 =>
pLoad1 h36 v37 fun v38 =>
pFieldA v34 1 fun v39 =>
pLoad1 h36 v39 fun v40 =>
pCall c (.fn 23 [] []) [s27.2.2.2.1, v38, v40] h36 fun _ h42 =>
pInt .add s27.1 (.int .i64 (.ofNat 1)) fun v43 =>
i30 (v43, s27.2.1, s27.2.2.1, s27.2.2.2.1, ()) h42 d29) (
pLeave d29 h28 fun h44 =>
some (s27.2.2.2.1, h44))) ((.int .i64 (.ofNat 0)), v26, v24, s7.2.2.2.1, ()) h25 d9)) ((.int .i64 (.ofNat 0)), v6, v4, v2, a0, ()) h5 []
theorem S59_eq (c : CV) (a0 : AV) (h : AH) : enterK Try.prog NN P59 c 59 [a0] h = S59 c a0 h := by kernel_rfl
def W59 (c : CV) (l : List AV) (h : AH) : R := match l with | [a0] => S59 c a0 h | _ => none
theorem W59_ok : WOk Try.prog 59 W59 := by
  intro c l h r e
  unfold W59 at e
  split at e
  · exact ⟨P59, by rw [S59_eq]; exact e⟩
  · cases e
/- (*quietus/view.View).Read -/
def P60 : Pl := .z
def S60 (c : CV) (a0 a1 : AV) (h : AH) : R :=
pCall c (.fn 53 [] []) [a0, a1] h fun v0 h1 =>
pUn .not v0 fun v2 =>
pCond v2 (
some ((.tup [(.int .u64 (.ofNat 0)), (.int .i64 (.ofNat 2))]), h1)) (
pNil a0 fun v3 =>
pFieldA v3 2 fun v4 =>
pLoad1 h1 v4 fun v5 =>
pCall c (.fn 81 [] []) [v5, a1] h1 fun v6 h7 =>
pExtract v6 0 fun v8 =>
pExtract v6 1 fun v9 =>
pCond v9 (
some ((.tup [v8, (.int .i64 (.ofNat 0))]), h7)) (
pNil a0 fun v10 =>
pFieldA v10 0 fun v11 =>
pLoad1 h7 v11 fun v12 =>
pIdxS v12 a1 2 fun v13 =>
pLoadN h7 v13 2 fun v14 =>
pBox h7 99 (.agg [(.int .u64 (.ofNat 0)), (.bool false)]) fun v15 h16 =>
pStore h16 v15 v14 2 fun h17 =>
pFieldA v15 1 fun v18 =>
pLoad1 h17 v18 fun v19 =>
pCond v19 (
pFieldA v15 0 fun v20 =>
pLoad1 h17 v20 fun v21 =>
some ((.tup [v21, (.int .i64 (.ofNat 0))]), h17)) (
pNil a0 fun v22 =>
pFieldA v22 3 fun v23 =>
pStore h17 v23 a1 1 fun h24 =>
some ((.tup [(.int .u64 (.ofNat 0)), (.int .i64 (.ofNat 11))]), h24))))
theorem S60_eq (c : CV) (a0 a1 : AV) (h : AH) : enterK Try.prog NN P60 c 60 [a0, a1] h = S60 c a0 a1 h := by kernel_rfl
def W60 (c : CV) (l : List AV) (h : AH) : R := match l with | [a0, a1] => S60 c a0 a1 h | _ => none
theorem W60_ok : WOk Try.prog 60 W60 := by
  intro c l h r e
  unfold W60 at e
  split at e
  · exact ⟨P60, by rw [S60_eq]; exact e⟩
  · cases e
/- (*quietus/view.View).Take -/
def P61 : Pl := (.n none .z (.n none (.n none .z (.n none (.n (some [9, 8, 7, 1, 0]) .z .z) .z)) .z))
def S61 (c : CV) (a0 a1 : AV) (h : AH) : R :=
pLenS a1 fun v0 =>
loopC (σ := AV × AV × AV × AV × AV × Unit) NN (fun i4 s1 h2 d3 =>
pInt .lss s1.1 s1.2.1 fun v5 =>
pCond v5 (
pIdxS s1.2.2.1 s1.1 2 fun v6 =>
pLoadN h2 v6 2 fun v7 =>
pBox h2 53 (.agg [(.int .i64 (.ofNat 0)), (.int .u64 (.ofNat 0))]) fun v8 h9 =>
pStore h9 v8 v7 2 fun h10 =>
pFieldA v8 0 fun v11 =>
pLoad1 h10 v11 fun v12 =>
pCall c (.fn 53 [] []) [s1.2.2.2.2.1, v12] h10 fun v13 h14 =>
pUn .not v13 fun v15 =>
pCond v15 (
pLeave d3 h14 fun h16 =>
some ((.int .i64 (.ofNat 2)), h16)) (
pInt .add s1.1 (.int .i64 (.ofNat 1)) fun v17 =>
i4 (v17, s1.2.1, s1.2.2.1, s1.2.2.2.1, s1.2.2.2.2.1, ()) h14 d3)) (
pNil s1.2.2.2.2.1 fun v18 =>
pFieldA v18 2 fun v19 =>
pLoad1 h2 v19 fun v20 =>
pCall c (.fn 82 [] []) [v20, s1.2.2.2.1] h2 fun v21 h22 =>
pLeave d3 h22 fun h23 =>
some (v21, h23))) ((.int .i64 (.ofNat 0)), v0, a1, a1, a0, ()) h []
theorem S61_eq (c : CV) (a0 a1 : AV) (h : AH) : enterK Try.prog NN P61 c 61 [a0, a1] h = S61 c a0 a1 h := by kernel_rfl
def W61 (c : CV) (l : List AV) (h : AH) : R := match l with | [a0, a1] => S61 c a0 a1 h | _ => none
theorem W61_ok : WOk Try.prog 61 W61 := by
  intro c l h r e
  unfold W61 at e
  split at e
  · exact ⟨P61, by rw [S61_eq]; exact e⟩
  · cases e
/- (*quietus/view.View).Free -/
def P62 : Pl := .z
def S62 (c : CV) (a0 a1 : AV) (h : AH) : R :=
pNil a0 fun v0 =>
pFieldA v0 2 fun v1 =>
pLoad1 h v1 fun v2 =>
pCall c (.fn 83 [] []) [v2, a1] h fun _ h4 =>
some ((.tup []), h4)
theorem S62_eq (c : CV) (a0 a1 : AV) (h : AH) : enterK Try.prog NN P62 c 62 [a0, a1] h = S62 c a0 a1 h := by kernel_rfl
def W62 (c : CV) (l : List AV) (h : AH) : R := match l with | [a0, a1] => S62 c a0 a1 h | _ => none
theorem W62_ok : WOk Try.prog 62 W62 := by
  intro c l h r e
  unfold W62 at e
  split at e
  · exact ⟨P62, by rw [S62_eq]; exact e⟩
  · cases e
/- (*quietus/draft.Draft).Name -/
def P63 : Pl := .z
def S63 (c : CV) (a0 a1 : AV) (h : AH) : R :=
pInt .geq a1 (.int .u64 (.ofNat 2147483648)) fun v0 =>
pCond v0 (
pCall c (.fn 65 [] []) [a0, (.int .i64 (.ofNat 2))] h fun _ h2 =>
some ((.int .i64 (.ofNat 0)), h2)) (
pConvI .i64 a1 fun v3 =>
some (v3, h))
theorem S63_eq (c : CV) (a0 a1 : AV) (h : AH) : enterK Try.prog NN P63 c 63 [a0, a1] h = S63 c a0 a1 h := by kernel_rfl
def W63 (c : CV) (l : List AV) (h : AH) : R := match l with | [a0, a1] => S63 c a0 a1 h | _ => none
theorem W63_ok : WOk Try.prog 63 W63 := by
  intro c l h r e
  unfold W63 at e
  split at e
  · exact ⟨P63, by rw [S63_eq]; exact e⟩
  · cases e
/- quietus/arena.Alloc -/
def P64 : Pl := .z
def S64 (c : CV) (a0 a1 : AV) (h : AH) : R :=
pCall c (.fn 84 [] []) [a1] h fun v0 h1 =>
pInt .eql v0 (.int .i64 (.ofNat 0)) fun v2 =>
pCond v2 (
some ((.tup [(.int .i64 (.ofNat 0)), (.int .i64 (.ofNat 3))]), h1)) (
pCall c (.fn 55 [] []) [v0] h1 fun v3 h4 =>
pCall c (.fn 60 [] []) [a0, v3] h4 fun v5 h6 =>
pExtract v5 0 fun v7 =>
pExtract v5 1 fun v8 =>
pInt .neq v8 (.int .i64 (.ofNat 0)) fun v9 =>
pCond v9 (
some ((.tup [(.int .i64 (.ofNat 0)), v8]), h6)) (
pInt .neq v7 (.int .u64 (.ofNat 0)) fun v10 =>
pCond v10 (
pCall c (.fn 85 [] []) [a0, v0, v7] h6 fun v11 h12 =>
pExtract v11 0 fun v13 =>
pExtract v11 1 fun v14 =>
some ((.tup [v13, v14]), h12)) (
pCall c (.fn 86 [] []) [a0, v0] h6 fun v15 h16 =>
pExtract v15 0 fun v17 =>
pExtract v15 1 fun v18 =>
some ((.tup [v17, v18]), h16))))
theorem S64_eq (c : CV) (a0 a1 : AV) (h : AH) : enterK Try.prog NN P64 c 64 [a0, a1] h = S64 c a0 a1 h := by kernel_rfl
def W64 (c : CV) (l : List AV) (h : AH) : R := match l with | [a0, a1] => S64 c a0 a1 h | _ => none
theorem W64_ok : WOk Try.prog 64 W64 := by
  intro c l h r e
  unfold W64 at e
  split at e
  · exact ⟨P64, by rw [S64_eq]; exact e⟩
  · cases e
/- (*quietus/draft.Draft).Fail -/
def P65 : Pl := .z
def S65 (c : CV) (a0 a1 : AV) (h : AH) : R :=
pCall c (.fn 33 [] []) [a0] h fun v0 h1 =>
pCond v0 (
pNil a0 fun v2 =>
pFieldA v2 1 fun v3 =>
pStore h1 v3 a1 1 fun h4 =>
some ((.tup []), h4)) (
some ((.tup []), h1))
theorem S65_eq (c : CV) (a0 a1 : AV) (h : AH) : enterK Try.prog NN P65 c 65 [a0, a1] h = S65 c a0 a1 h := by kernel_rfl
def W65 (c : CV) (l : List AV) (h : AH) : R := match l with | [a0, a1] => S65 c a0 a1 h | _ => none
theorem W65_ok : WOk Try.prog 65 W65 := by
  intro c l h r e
  unfold W65 at e
  split at e
  · exact ⟨P65, by rw [S65_eq]; exact e⟩
  · cases e
/- (*quietus/view.View).Write -/
def P66 : Pl := .z
def S66 (c : CV) (a0 a1 a2 : AV) (h : AH) : R :=
pCall c (.fn 53 [] []) [a0, a1] h fun v0 h1 =>
pUn .not v0 fun v2 =>
pCond v2 (
some ((.int .i64 (.ofNat 2)), h1)) (
pNil a0 fun v3 =>
pFieldA v3 2 fun v4 =>
pLoad1 h1 v4 fun v5 =>
pCall c (.fn 87 [] []) [v5, a1, a2] h1 fun v6 h7 =>
some (v6, h7))
theorem S66_eq (c : CV) (a0 a1 a2 : AV) (h : AH) : enterK Try.prog NN P66 c 66 [a0, a1, a2] h = S66 c a0 a1 a2 h := by kernel_rfl
def W66 (c : CV) (l : List AV) (h : AH) : R := match l with | [a0, a1, a2] => S66 c a0 a1 a2 h | _ => none
theorem W66_ok : WOk Try.prog 66 W66 := by
  intro c l h r e
  unfold W66 at e
  split at e
  · exact ⟨P66, by rw [S66_eq]; exact e⟩
  · cases e
/- quietus/arena.Free -/
def P67 : Pl := (.n none .z (.n none .z (.n (some [7, 5, 1, 0]) (.n none (.r [[19, 17, 7, 5, 1, 0]]) .z) (.n (some [7, 1, 0]) .z (.n (some [7]) .z .z)))))
def S67 (c : CV) (a0 a1 : AV) (h : AH) : R :=
pCall c (.fn 88 [] []) [a0, a1] h fun v0 h1 =>
pExtract v0 0 fun v2 =>
pExtract v0 1 fun v3 =>
pExtract v0 2 fun v4 =>
joinC (α := AV × AV × AV × AV × Unit → AH → List Nat → R) (fun s5 h6 d7 =>
joinC (α := AV × AV × AV × Unit → AH → List Nat → R) (fun s9 h10 d11 =>
joinC (α := AV × Unit → AH → List Nat → R) (fun s13 h14 d15 =>
pLeave d15 h14 fun h17 =>
some (s13.1, h17)) fun j16 =>
pInt .eql s9.1 (.int .i64 (.ofNat 0)) fun v18 =>
pCond v18 (
pCall c (.fn 62 [] []) [s9.2.2.1, s9.2.1] h10 fun _ h20 =>
j16 (s9.1, ()) h20 d11) (
j16 (s9.1, ()) h10 d11)) fun j12 =>
pInt .eql s5.1 (.int .i64 (.ofNat 0)) fun v21 =>
pCond v21 (
pInt .sub s5.2.2.1 (.int .i64 (.ofNat 1)) fun v22 =>
pConvI .u64 s5.2.1 fun v23 =>
pBuild [(.int .i64 (.ofNat 0)), (.int .u64 (.ofNat 0))] [(0, 1, v22), (1, 1, v23)] fun v24 =>
pBuildS h6 53 [(.int .i64 (.ofNat 0)), (.int .u64 (.ofNat 0))] 1 [(0, 2, v24)] fun v25 h26 =>
pCall c (.fn 61 [] []) [s5.2.2.2.1, v25] h26 fun v27 h28 =>
j12 (v27, s5.2.2.1, s5.2.2.2.1, ()) h28 d7) (
j12 (s5.1, s5.2.2.1, s5.2.2.2.1, ()) h6 d7)) fun j8 =>
pInt .eql v4 (.int .i64 (.ofNat 0)) fun v29 =>
joinC (α := AV × AV × AV × AV × AV × AV × Unit → AH → R) (fun s30 h31 =>
pPick s30.2.1 s30.1 (.bool false) fun v33 =>
pCond v33 (
j8 ((.int .i64 (.ofNat 2)), s30.2.2.2.1, s30.2.2.2.2.1, s30.2.2.2.2.2.1, ()) h31 []) (
j8 (s30.2.2.1, s30.2.2.2.1, s30.2.2.2.2.1, s30.2.2.2.2.2.1, ()) h31 [])) fun j32 =>
pWant v29 true (
pUn .not v3 fun v34 =>
j32 (v34, v29, v4, v2, a1, a0, ()) h1) (
j32 (.undef, v29, v4, v2, a1, a0, ()) h1)
theorem S67_eq (c : CV) (a0 a1 : AV) (h : AH) : enterK Try.prog NN P67 c 67 [a0, a1] h = S67 c a0 a1 h := by kernel_rfl
def W67 (c : CV) (l : List AV) (h : AH) : R := match l with | [a0, a1] => S67 c a0 a1 h | _ => none
theorem W67_ok : WOk Try.prog 67 W67 := by
  intro c l h r e
  unfold W67 at e
  split at e
  · exact ⟨P67, by rw [S67_eq]; exact e⟩
  · cases e
/- (quietus/quietuskeep.Call).Val -/
def P68 : Pl := .z
def S68 (_ : CV) (a0 : AV) (h : AH) : R :=
pBox h 36 a0 fun v0 h1 =>
pFieldA v0 3 fun v2 =>
pLoad1 h1 v2 fun v3 =>
pInt .rem v3 (.int .u64 (.ofNat 12)) fun v4 =>
some (v4, h1)
theorem S68_eq (c : CV) (a0 : AV) (h : AH) : enterK Try.prog NN P68 c 68 [a0] h = S68 c a0 h := by kernel_rfl
def W68 (c : CV) (l : List AV) (h : AH) : R := match l with | [a0] => S68 c a0 h | _ => none
theorem W68_ok : WOk Try.prog 68 W68 := by
  intro c l h r e
  unfold W68 at e
  split at e
  · exact ⟨P68, by rw [S68_eq]; exact e⟩
  · cases e
/- (*quietus/quietuskeep.Objects).Put -/
def P69 : Pl := .z
def S69 (c : CV) (a0 a1 a2 a3 : AV) (h : AH) : R :=
pCall c (.fn 71 [] []) [a0, a1, a2] h fun v0 h1 =>
pExtract v0 0 fun v2 =>
pExtract v0 1 fun v3 =>
pCond v3 (
pNil a0 fun v4 =>
pFieldA v4 0 fun v5 =>
pIdxP v5 a1 8 1 fun v6 =>
pLoad1 h1 v6 fun v7 =>
pIdxS v7 v2 2 fun v8 =>
pFieldA v8 1 fun v9 =>
pStore h1 v9 a3 1 fun h10 =>
some ((.bool false), h10)) (
pNil a0 fun v11 =>
pFieldA v11 0 fun v12 =>
pIdxP v12 a1 8 1 fun v13 =>
pLoad1 h1 v13 fun v14 =>
pSlice h1 88 2 v14 none (some v2) fun v15 =>
pAppend h1 88 2 .nils v15 fun v16 h17 =>
pBuild [(.int .u64 (.ofNat 0)), (.int .u64 (.ofNat 0))] [(0, 1, a2), (1, 1, a3)] fun v18 =>
pBuildS h17 88 [(.int .u64 (.ofNat 0)), (.int .u64 (.ofNat 0))] 1 [(0, 2, v18)] fun v19 h20 =>
pAppend h20 88 2 v16 v19 fun v21 h22 =>
pNil a0 fun v23 =>
pFieldA v23 0 fun v24 =>
pIdxP v24 a1 8 1 fun v25 =>
pLoad1 h22 v25 fun v26 =>
pSlice h22 88 2 v26 (some v2) none fun v27 =>
pAppend h22 88 2 v21 v27 fun v28 h29 =>
pNil a0 fun v30 =>
pFieldA v30 0 fun v31 =>
pIdxP v31 a1 8 1 fun v32 =>
pStore h29 v32 v28 1 fun h33 =>
some ((.bool true), h33))
theorem S69_eq (c : CV) (a0 a1 a2 a3 : AV) (h : AH) : enterK Try.prog NN P69 c 69 [a0, a1, a2, a3] h = S69 c a0 a1 a2 a3 h := by kernel_rfl
def W69 (c : CV) (l : List AV) (h : AH) : R := match l with | [a0, a1, a2, a3] => S69 c a0 a1 a2 a3 h | _ => none
theorem W69_ok : WOk Try.prog 69 W69 := by
  intro c l h r e
  unfold W69 at e
  split at e
  · exact ⟨P69, by rw [S69_eq]; exact e⟩
  · cases e
/- (*quietus/quietuskeep.Objects).Del -/
def P70 : Pl := .z
def S70 (c : CV) (a0 a1 a2 : AV) (h : AH) : R :=
pCall c (.fn 71 [] []) [a0, a1, a2] h fun v0 h1 =>
pExtract v0 0 fun v2 =>
pExtract v0 1 fun v3 =>
pUn .not v3 fun v4 =>
pCond v4 (
some ((.bool false), h1)) (
pNil a0 fun v5 =>
pFieldA v5 0 fun v6 =>
pIdxP v6 a1 8 1 fun v7 =>
pLoad1 h1 v7 fun v8 =>
pSlice h1 88 2 v8 none (some v2) fun v9 =>
pAppend h1 88 2 .nils v9 fun v10 h11 =>
pNil a0 fun v12 =>
pFieldA v12 0 fun v13 =>
pIdxP v13 a1 8 1 fun v14 =>
pLoad1 h11 v14 fun v15 =>
pInt .add v2 (.int .i64 (.ofNat 1)) fun v16 =>
pSlice h11 88 2 v15 (some v16) none fun v17 =>
pAppend h11 88 2 v10 v17 fun v18 h19 =>
pNil a0 fun v20 =>
pFieldA v20 0 fun v21 =>
pIdxP v21 a1 8 1 fun v22 =>
pStore h19 v22 v18 1 fun h23 =>
some ((.bool true), h23))
theorem S70_eq (c : CV) (a0 a1 a2 : AV) (h : AH) : enterK Try.prog NN P70 c 70 [a0, a1, a2] h = S70 c a0 a1 a2 h := by kernel_rfl
def W70 (c : CV) (l : List AV) (h : AH) : R := match l with | [a0, a1, a2] => S70 c a0 a1 a2 h | _ => none
theorem W70_ok : WOk Try.prog 70 W70 := by
  intro c l h r e
  unfold W70 at e
  split at e
  · exact ⟨P70, by rw [S70_eq]; exact e⟩
  · cases e
/- (*quietus/quietuskeep.Objects).Find -/
def P71 : Pl := (.n none .z (.n none .z (.n none (.n none (.n (some [8, 2, 1, 0]) (.n none (.n none (.r [[30, 18, 8, 2, 1, 0]]) .z) .z) .z) .z) (.n none (.r [[56, 44, 34]]) .z))))
def S71 (_ : CV) (a0 a1 a2 : AV) (h : AH) : R :=
loopC (σ := AV × AV × AV × AV × Unit) NN (fun i3 s0 h1 d2 =>
pNil s0.2.2.2.1 fun v4 =>
pFieldA v4 0 fun v5 =>
pIdxP v5 s0.2.2.1 8 1 fun v6 =>
pLoad1 h1 v6 fun v7 =>
pLenS v7 fun v8 =>
pInt .lss s0.1 v8 fun v9 =>
joinC (α := AV × AV × AV × AV × AV × AV × Unit → AH → R) (fun s10 h11 =>
pPick s10.2.1 s10.1 (.bool false) fun v13 =>
pCond v13 (
pInt .add s10.2.2.1 (.int .i64 (.ofNat 1)) fun v14 =>
i3 (v14, s10.2.2.2.1, s10.2.2.2.2.1, s10.2.2.2.2.2.1, ()) h11 d2) (
pNil s10.2.2.2.2.2.1 fun v15 =>
pFieldA v15 0 fun v16 =>
pIdxP v16 s10.2.2.2.2.1 8 1 fun v17 =>
pLoad1 h11 v17 fun v18 =>
pLenS v18 fun v19 =>
pInt .lss s10.2.2.1 v19 fun v20 =>
joinC (α := AV × AV × AV × Unit → AH → R) (fun s21 h22 =>
pPick s21.2.1 s21.1 (.bool false) fun v24 =>
pLeave d2 h22 fun h25 =>
some ((.tup [s21.2.2.1, v24]), h25)) fun j23 =>
pWant v20 true (
pNil s10.2.2.2.2.2.1 fun v26 =>
pFieldA v26 0 fun v27 =>
pIdxP v27 s10.2.2.2.2.1 8 1 fun v28 =>
pLoad1 h11 v28 fun v29 =>
pIdxS v29 s10.2.2.1 2 fun v30 =>
pFieldA v30 0 fun v31 =>
pLoad1 h11 v31 fun v32 =>
pInt .eql v32 s10.2.2.2.1 fun v33 =>
j23 (v33, v20, s10.2.2.1, ()) h11) (
j23 (.undef, v20, s10.2.2.1, ()) h11))) fun j12 =>
pWant v9 true (
pNil s0.2.2.2.1 fun v34 =>
pFieldA v34 0 fun v35 =>
pIdxP v35 s0.2.2.1 8 1 fun v36 =>
pLoad1 h1 v36 fun v37 =>
pIdxS v37 s0.1 2 fun v38 =>
pFieldA v38 0 fun v39 =>
pLoad1 h1 v39 fun v40 =>
pInt .lss v40 s0.2.1 fun v41 =>
j12 (v41, v9, s0.1, s0.2.1, s0.2.2.1, s0.2.2.2.1, ()) h1) (
j12 (.undef, v9, s0.1, s0.2.1, s0.2.2.1, s0.2.2.2.1, ()) h1)) ((.int .i64 (.ofNat 0)), a2, a1, a0, ()) h []
theorem S71_eq (c : CV) (a0 a1 a2 : AV) (h : AH) : enterK Try.prog NN P71 c 71 [a0, a1, a2] h = S71 c a0 a1 a2 h := by kernel_rfl
def W71 (c : CV) (l : List AV) (h : AH) : R := match l with | [a0, a1, a2] => S71 c a0 a1 a2 h | _ => none
theorem W71_ok : WOk Try.prog 71 W71 := by
  intro c l h r e
  unfold W71 at e
  split at e
  · exact ⟨P71, by rw [S71_eq]; exact e⟩
  · cases e
/- (*quietus/quietuskeep.Objects).Count -/
def P72 : Pl := (.n none .z (.n none .z (.n none (.n none .z (.n none (.n (some [10, 9, 3, 2, 1, 0]) (.n none .z (.n none (.n (some [10, 9, 3, 2, 1, 0]) (.n none (.r [[46, 34, 10, 9, 3, 2, 1, 0]]) .z) .z) .z)) .z) .z)) .z)))
def S72 (_ : CV) (a0 a1 a2 a3 : AV) (h : AH) : R :=
loopC (σ := AV × AV × AV × AV × AV × AV × Unit) NN (fun i3 s0 h1 d2 =>
pNil s0.2.2.2.2.2.1 fun v4 =>
pFieldA v4 0 fun v5 =>
pIdxP v5 s0.2.2.2.2.1 8 1 fun v6 =>
pLoad1 h1 v6 fun v7 =>
pLenS v7 fun v8 =>
pInt .lss s0.1 v8 fun v9 =>
pCond v9 (
joinC (α := AV × AV × AV × AV × AV × AV × Unit → AH → List Nat → R) (fun s10 h11 d12 =>
pInt .add s10.1 (.int .i64 (.ofNat 1)) fun v14 =>
i3 (v14, s10.2.1, s10.2.2.1, s10.2.2.2.1, s10.2.2.2.2.1, s10.2.2.2.2.2.1, ()) h11 d12) fun j13 =>
pNil s0.2.2.2.2.2.1 fun v15 =>
pFieldA v15 0 fun v16 =>
pIdxP v16 s0.2.2.2.2.1 8 1 fun v17 =>
pLoad1 h1 v17 fun v18 =>
pIdxS v18 s0.1 2 fun v19 =>
pFieldA v19 0 fun v20 =>
pLoad1 h1 v20 fun v21 =>
pInt .geq v21 s0.2.2.2.1 fun v22 =>
joinC (α := AV × AV × AV × AV × AV × AV × AV × AV × Unit → AH → R) (fun s23 h24 =>
pPick s23.2.1 s23.1 (.bool false) fun v26 =>
pCond v26 (
pInt .add s23.2.2.2.1 (.int .i64 (.ofNat 1)) fun v27 =>
j13 (s23.2.2.1, v27, s23.2.2.2.2.1, s23.2.2.2.2.2.1, s23.2.2.2.2.2.2.1, s23.2.2.2.2.2.2.2.1, ()) h24 d2) (
j13 (s23.2.2.1, s23.2.2.2.1, s23.2.2.2.2.1, s23.2.2.2.2.2.1, s23.2.2.2.2.2.2.1, s23.2.2.2.2.2.2.2.1, ()) h24 d2)) fun j25 =>
pWant v22 true (
pNil s0.2.2.2.2.2.1 fun v28 =>
pFieldA v28 0 fun v29 =>
pIdxP v29 s0.2.2.2.2.1 8 1 fun v30 =>
pLoad1 h1 v30 fun v31 =>
pIdxS v31 s0.1 2 fun v32 =>
pFieldA v32 0 fun v33 =>
pLoad1 h1 v33 fun v34 =>
pInt .leq v34 s0.2.2.1 fun v35 =>
j25 (v35, v22, s0.1, s0.2.1, s0.2.2.1, s0.2.2.2.1, s0.2.2.2.2.1, s0.2.2.2.2.2.1, ()) h1) (
j25 (.undef, v22, s0.1, s0.2.1, s0.2.2.1, s0.2.2.2.1, s0.2.2.2.2.1, s0.2.2.2.2.2.1, ()) h1)) (
pLeave d2 h1 fun h36 =>
some (s0.2.1, h36))) ((.int .i64 (.ofNat 0)), (.int .i64 (.ofNat 0)), a3, a2, a1, a0, ()) h []
theorem S72_eq (c : CV) (a0 a1 a2 a3 : AV) (h : AH) : enterK Try.prog NN P72 c 72 [a0, a1, a2, a3] h = S72 c a0 a1 a2 a3 h := by kernel_rfl
def W72 (c : CV) (l : List AV) (h : AH) : R := match l with | [a0, a1, a2, a3] => S72 c a0 a1 a2 a3 h | _ => none
theorem W72_ok : WOk Try.prog 72 W72 := by
  intro c l h r e
  unfold W72 at e
  split at e
  · exact ⟨P72, by rw [S72_eq]; exact e⟩
  · cases e
/- quietus/quietusref21.Apply -/
def P73 : Pl := (.n none .z (.n none .z (.n none .z (.n none (.n none .z (.n none (.n (some [7, 6, 5, 1]) .z .z) .z)) (.n none (.n none .z (.n none (.n (some [8, 6, 5, 1]) (.n none .z (.n none (.n (some [8, 6, 5, 1]) .z .z) .z)) .z) .z)) .z)))))
def S73 (c : CV) (a0 a1 : AV) (h : AH) : R :=
pCall c (.fn 89 [] []) [a0, (.int .i64 (.ofNat 0))] h fun v0 h1 =>
pNil v0 fun v2 =>
pFieldA v2 0 fun v3 =>
pLoad1 h1 v3 fun v4 =>
pMake h1 28 [(.int .u64 (.ofNat 0))] v4 v4 fun v5 h6 =>
loopC (σ := AV × AV × AV × AV × Unit) NN (fun i10 s7 h8 d9 =>
pNil s7.2.2.1 fun v11 =>
pFieldA v11 1 fun v12 =>
pLoad1 h8 v12 fun v13 =>
pLenS v13 fun v14 =>
pInt .lss s7.1 v14 fun v15 =>
pCond v15 (
pNil s7.2.2.1 fun v16 =>
pFieldA v16 1 fun v17 =>
pLoad1 h8 v17 fun v18 =>
pIdxS v18 s7.1 2 fun v19 =>
pFieldA v19 0 fun v20 =>
pLoad1 h8 v20 fun v21 =>
pNil s7.2.2.1 fun v22 =>
pFieldA v22 1 fun v23 =>
pLoad1 h8 v23 fun v24 =>
pIdxS v24 s7.1 2 fun v25 =>
pFieldA v25 1 fun v26 =>
pLoad1 h8 v26 fun v27 =>
pIdxS s7.2.1 v21 1 fun v28 =>
pStore h8 v28 v27 1 fun h29 =>
pInt .add s7.1 (.int .i64 (.ofNat 1)) fun v30 =>
i10 (v30, s7.2.1, s7.2.2.1, s7.2.2.2.1, ()) h29 d9) (
loopC (σ := AV × AV × AV × AV × Unit) NN (fun i34 s31 h32 d33 =>
pLenS s31.2.2.2.1 fun v35 =>
pInt .lss s31.1 v35 fun v36 =>
pCond v36 (
joinC (α := AV × AV × AV × AV × Unit → AH → List Nat → R) (fun s37 h38 d39 =>
pInt .add s37.1 (.int .i64 (.ofNat 1)) fun v41 =>
i34 (v41, s37.2.1, s37.2.2.1, s37.2.2.2.1, ()) h38 d39) fun j40 =>
pIdxS s31.2.2.2.1 s31.1 2 fun v42 =>
pFieldA v42 0 fun v43 =>
pLoad1 h32 v43 fun v44 =>
pCall c (.fn 90 [] []) [s31.2.2.1, v44] h32 fun v45 h46 =>
pCond v45 (
pIdxS s31.2.2.2.1 s31.1 2 fun v47 =>
pFieldA v47 0 fun v48 =>
pLoad1 h46 v48 fun v49 =>
pIdxS s31.2.2.2.1 s31.1 2 fun v50 =>
pFieldA v50 1 fun v51 =>
pLoad1 h46 v51 fun v52 =>
pIdxS s31.2.1 v49 1 fun v53 =>
pStore h46 v53 v52 1 fun h54 =>
j40 (s31.1, s31.2.1, s31.2.2.1, s31.2.2.2.1, ()) h54 d33) (
j40 (s31.1, s31.2.1, s31.2.2.1, s31.2.2.2.1, ()) h46 d33)) (
pLeave d33 h32 fun h55 =>
some (s31.2.1, h55))) ((.int .i64 (.ofNat 0)), s7.2.1, s7.2.2.1, s7.2.2.2.1, ()) h8 d9)) ((.int .i64 (.ofNat 0)), v5, v0, a1, ()) h6 []
theorem S73_eq (c : CV) (a0 a1 : AV) (h : AH) : enterK Try.prog NN P73 c 73 [a0, a1] h = S73 c a0 a1 h := by kernel_rfl
def W73 (c : CV) (l : List AV) (h : AH) : R := match l with | [a0, a1] => S73 c a0 a1 h | _ => none
theorem W73_ok : WOk Try.prog 73 W73 := by
  intro c l h r e
  unfold W73 at e
  split at e
  · exact ⟨P73, by rw [S73_eq]; exact e⟩
  · cases e
/- quietus/arena.Give -/
def P74 : Pl := (.n none .z (.n none .z (.n (some [7, 5, 1, 0]) (.n none (.r [[19, 18, 7, 5, 1, 0]]) .z) .z)))
def S74 (c : CV) (a0 a1 : AV) (h : AH) : R :=
pCall c (.fn 88 [] []) [a0, a1] h fun v0 h1 =>
pExtract v0 0 fun v2 =>
pExtract v0 1 fun v3 =>
pExtract v0 2 fun v4 =>
joinC (α := AV × AV × AV × AV × Unit → AH → List Nat → R) (fun s5 h6 d7 =>
pInt .neq s5.1 (.int .i64 (.ofNat 0)) fun v9 =>
pCond v9 (
pLeave d7 h6 fun h10 =>
some (s5.1, h10)) (
pCall c (.fn 55 [] []) [s5.2.1] h6 fun v11 h12 =>
pCall c (.fn 60 [] []) [s5.2.2.2.1, v11] h12 fun v13 h14 =>
pExtract v13 0 fun v15 =>
pExtract v13 1 fun v16 =>
pInt .neq v16 (.int .i64 (.ofNat 0)) fun v17 =>
pCond v17 (
pLeave d7 h14 fun h18 =>
some (v16, h18)) (
pBuild [(.int .i64 (.ofNat 0)), (.int .u64 (.ofNat 0))] [(0, 1, s5.2.2.1), (1, 1, v15)] fun v19 =>
pCall c (.fn 55 [] []) [s5.2.1] h14 fun v20 h21 =>
pConvI .u64 s5.2.2.1 fun v22 =>
pBuild [(.int .i64 (.ofNat 0)), (.int .u64 (.ofNat 0))] [(0, 1, v20), (1, 1, v22)] fun v23 =>
pBuildS h21 53 [(.int .i64 (.ofNat 0)), (.int .u64 (.ofNat 0))] 2 [(0, 2, v19), (2, 2, v23)] fun v24 h25 =>
pCall c (.fn 61 [] []) [s5.2.2.2.1, v24] h25 fun v26 h27 =>
pLeave d7 h27 fun h28 =>
some (v26, h28)))) fun j8 =>
pInt .eql v4 (.int .i64 (.ofNat 0)) fun v29 =>
joinC (α := AV × AV × AV × AV × AV × AV × Unit → AH → R) (fun s30 h31 =>
pPick s30.2.1 s30.1 (.bool false) fun v33 =>
pCond v33 (
j8 ((.int .i64 (.ofNat 2)), s30.2.2.2.1, s30.2.2.2.2.1, s30.2.2.2.2.2.1, ()) h31 []) (
j8 (s30.2.2.1, s30.2.2.2.1, s30.2.2.2.2.1, s30.2.2.2.2.2.1, ()) h31 [])) fun j32 =>
pWant v29 true (
j32 (v3, v29, v4, v2, a1, a0, ()) h1) (
j32 (.undef, v29, v4, v2, a1, a0, ()) h1)
theorem S74_eq (c : CV) (a0 a1 : AV) (h : AH) : enterK Try.prog NN P74 c 74 [a0, a1] h = S74 c a0 a1 h := by kernel_rfl
def W74 (c : CV) (l : List AV) (h : AH) : R := match l with | [a0, a1] => S74 c a0 a1 h | _ => none
theorem W74_ok : WOk Try.prog 74 W74 := by
  intro c l h r e
  unfold W74 at e
  split at e
  · exact ⟨P74, by rw [S74_eq]; exact e⟩
  · cases e
/- quietus/levels.fresh -/
def P75 : Pl := .z
def S75 (c : CV) (h : AH) : R :=
pCall c (.fn 77 [] []) [(.int .i64 (.ofNat 96))] h fun v0 h1 =>
pBuild [.nilp, .nils] [(0, 1, v0)] fun v2 =>
pBox h1 132 v2 fun v3 h4 =>
some (v3, h4)
theorem S75_eq (c : CV) (h : AH) : enterK Try.prog NN P75 c 75 [] h = S75 c h := by kernel_rfl
def W75 (c : CV) (l : List AV) (h : AH) : R := match l with | [] => S75 c h | _ => none
theorem W75_ok : WOk Try.prog 75 W75 := by
  intro c l h r e
  unfold W75 at e
  split at e
  · exact ⟨P75, by rw [S75_eq]; exact e⟩
  · cases e
/- slices.Backward[[]*quietus/levels.level,*quietus/levels.level] -/
def P76 : Pl := .z
def S76 (_ : CV) (a0 : AV) (h : AH) : R :=
pBox h 123 a0 fun v0 h1 =>
some ((.fn 91 [] [v0]), h1)
theorem S76_eq (c : CV) (a0 : AV) (h : AH) : enterK Try.prog NN P76 c 76 [a0] h = S76 c a0 h := by kernel_rfl
def W76 (c : CV) (l : List AV) (h : AH) : R := match l with | [a0] => S76 c a0 h | _ => none
theorem W76_ok : WOk Try.prog 76 W76 := by
  intro c l h r e
  unfold W76 at e
  split at e
  · exact ⟨P76, by rw [S76_eq]; exact e⟩
  · cases e
/- quietus/writes.New -/
def P77 : Pl := .z
def S77 (_ : CV) (a0 : AV) (h : AH) : R :=
pMM false [a0, (.int .i64 (.ofNat 96))] fun v0 =>
pMM true [(.int .i64 (.ofNat 0)), v0] fun v1 =>
pBuild [(.int .i64 (.ofNat 0)), .nils] [(0, 1, v1)] fun v2 =>
pBox h 146 v2 fun v3 h4 =>
some (v3, h4)
theorem S77_eq (c : CV) (a0 : AV) (h : AH) : enterK Try.prog NN P77 c 77 [a0] h = S77 c a0 h := by kernel_rfl
def W77 (c : CV) (l : List AV) (h : AH) : R := match l with | [a0] => S77 c a0 h | _ => none
theorem W77_ok : WOk Try.prog 77 W77 := by
  intro c l h r e
  unfold W77 at e
  split at e
  · exact ⟨P77, by rw [S77_eq]; exact e⟩
  · cases e
/- (*quietus/writes.Writes).Take -/
def P78 : Pl := (.n none .z (.n none .z (.n none (.n none .z (.n none (.n (some [13, 12, 11, 5, 0]) .z .z) .z)) .z)))
def S78 (c : CV) (a0 a1 : AV) (h : AH) : R :=
pCall c (.fn 79 [] []) [a0] h fun v0 h1 =>
pLenS a1 fun v2 =>
loopC (σ := AV × AV × AV × AV × AV × Unit) NN (fun i6 s3 h4 d5 =>
pInt .lss s3.1 s3.2.1 fun v7 =>
pCond v7 (
pIdxS s3.2.2.1 s3.1 2 fun v8 =>
pLoadN h4 v8 2 fun v9 =>
pBox h4 53 (.agg [(.int .i64 (.ofNat 0)), (.int .u64 (.ofNat 0))]) fun v10 h11 =>
pStore h11 v10 v9 2 fun h12 =>
pFieldA v10 0 fun v13 =>
pLoad1 h12 v13 fun v14 =>
pFieldA v10 1 fun v15 =>
pLoad1 h12 v15 fun v16 =>
pCall c (.fn 92 [] []) [s3.2.2.2.2.1, v14, v16] h12 fun v17 h18 =>
pInt .neq v17 (.int .i64 (.ofNat 0)) fun v19 =>
pCond v19 (
pNil s3.2.2.2.2.1 fun v20 =>
pFieldA v20 1 fun v21 =>
pStore h18 v21 s3.2.2.2.1 1 fun h22 =>
pLeave d5 h22 fun h23 =>
some (v17, h23)) (
pInt .add s3.1 (.int .i64 (.ofNat 1)) fun v24 =>
i6 (v24, s3.2.1, s3.2.2.1, s3.2.2.2.1, s3.2.2.2.2.1, ()) h18 d5)) (
pLeave d5 h4 fun h25 =>
some ((.int .i64 (.ofNat 0)), h25))) ((.int .i64 (.ofNat 0)), v2, a1, v0, a0, ()) h1 []
theorem S78_eq (c : CV) (a0 a1 : AV) (h : AH) : enterK Try.prog NN P78 c 78 [a0, a1] h = S78 c a0 a1 h := by kernel_rfl
def W78 (c : CV) (l : List AV) (h : AH) : R := match l with | [a0, a1] => S78 c a0 a1 h | _ => none
theorem W78_ok : WOk Try.prog 78 W78 := by
  intro c l h r e
  unfold W78 at e
  split at e
  · exact ⟨P78, by rw [S78_eq]; exact e⟩
  · cases e
/- (*quietus/writes.Writes).All -/
def P79 : Pl := .z
def S79 (c : CV) (a0 : AV) (h : AH) : R :=
pNil a0 fun v0 =>
pFieldA v0 1 fun v1 =>
pLoad1 h v1 fun v2 =>
pCall c (.fn 93 [] []) [v2] h fun v3 h4 =>
some (v3, h4)
theorem S79_eq (c : CV) (a0 : AV) (h : AH) : enterK Try.prog NN P79 c 79 [a0] h = S79 c a0 h := by kernel_rfl
def W79 (c : CV) (l : List AV) (h : AH) : R := match l with | [a0] => S79 c a0 h | _ => none
theorem W79_ok : WOk Try.prog 79 W79 := by
  intro c l h r e
  unfold W79 at e
  split at e
  · exact ⟨P79, by rw [S79_eq]; exact e⟩
  · cases e
/- slices.Index[[]int,int] -/
def P80 : Pl := (.n none .z (.n none (.n none .z (.n none (.n (some [8, 7, 1, 0]) .z .z) .z)) .z))
def S80 (_ : CV) (a0 a1 : AV) (h : AH) : R :=
pLenS a0 fun v0 =>
loopC (σ := AV × AV × AV × AV × Unit) NN (fun i4 s1 h2 d3 =>
pInt .lss s1.1 s1.2.1 fun v5 =>
pCond v5 (
pIdxS s1.2.2.2.1 s1.1 1 fun v6 =>
pLoad1 h2 v6 fun v7 =>
pInt .eql s1.2.2.1 v7 fun v8 =>
pCond v8 (
pLeave d3 h2 fun h9 =>
some (s1.1, h9)) (
pInt .add s1.1 (.int .i64 (.ofNat 1)) fun v10 =>
i4 (v10, s1.2.1, s1.2.2.1, s1.2.2.2.1, ()) h2 d3)) (
pLeave d3 h2 fun h11 =>
some ((.int .i64 (.negSucc 0)), h11))) ((.int .i64 (.ofNat 0)), v0, a1, a0, ()) h []
theorem S80_eq (c : CV) (a0 a1 : AV) (h : AH) : enterK Try.prog NN P80 c 80 [a0, a1] h = S80 c a0 a1 h := by kernel_rfl
def W80 (c : CV) (l : List AV) (h : AH) : R := match l with | [a0, a1] => S80 c a0 a1 h | _ => none
theorem W80_ok : WOk Try.prog 80 W80 := by
  intro c l h r e
  unfold W80 at e
  split at e
  · exact ⟨P80, by rw [S80_eq]; exact e⟩
  · cases e
/- (*quietus/levels.Levels).Get -/
def P81 : Pl := (.n none .z (.n none (.n none .z (.n none (.n (some [5, 4, 3]) .z .z) .z)) .z))
def S81 (c : CV) (a0 a1 : AV) (h : AH) : R :=
pBox h 3 a1 fun v0 h1 =>
pBox h1 28 (.int .u64 (.ofNat 0)) fun v2 h3 =>
pBox h3 4 (.bool false) fun v4 h5 =>
pNil a0 fun v6 =>
pFieldA v6 1 fun v7 =>
pLoad1 h5 v7 fun v8 =>
pCall c (.fn 76 [] []) [v8] h5 fun v9 h10 =>
pCallF c v9 [.yield (h10.new .dfd).nx] ((h10.new .dfd).new (.loop .ready none 81 [1, 0, 1, 0] [5, 4, 3] [v4, v2, v0] h10.nx)) fun _ h11 =>
pEndLoop h11 (h10.new .dfd).nx fun p13 h12 =>
pNone p13 (
pStore h12 v2 (.int .u64 (.ofNat 0)) 1 fun h14 =>
pStore h14 v4 (.bool false) 1 fun h15 =>
pLeave (h10.nx :: []) h15 fun h16 =>
pLoad1 h16 v2 fun v17 =>
pLoad1 h16 v4 fun v18 =>
some ((.tup [v17, v18]), h16)) <|
pIs p13 .ret (
pLeave (h10.nx :: []) h12 fun h19 =>
pLoad1 h19 v2 fun v20 =>
pLoad1 h19 v4 fun v21 =>
some ((.tup [v20, v21]), h19)) <|
none
theorem S81_eq (c : CV) (a0 a1 : AV) (h : AH) : enterK Try.prog NN P81 c 81 [a0, a1] h = S81 c a0 a1 h := by kernel_rfl
def W81 (c : CV) (l : List AV) (h : AH) : R := match l with | [a0, a1] => S81 c a0 a1 h | _ => none
theorem W81_ok : WOk Try.prog 81 W81 := by
  intro c l h r e
  unfold W81 at e
  split at e
  · exact ⟨P81, by rw [S81_eq]; exact e⟩
  · cases e
/- (*quietus/levels.Levels).Take -/
def P82 : Pl := (.n none .z (.n none .z (.n none .z (.n none (.n none .z (.n none (.n (some [20, 19, 18, 5, 0]) .z .z) .z)) .z))))
def S82 (c : CV) (a0 a1 : AV) (h : AH) : R :=
pCall c (.fn 77 [] []) [(.int .i64 (.ofNat 96))] h fun v0 h1 =>
pCall c (.fn 95 [] []) [a0] h1 fun v2 h3 =>
pNil v2 fun v4 =>
pFieldA v4 0 fun v5 =>
pLoad1 h3 v5 fun v6 =>
pCall c (.fn 79 [] []) [v6] h3 fun v7 h8 =>
pCall c (.fn 78 [] []) [v0, v7] h8 fun _ h10 =>
pLenS a1 fun v11 =>
loopC (σ := AV × AV × AV × AV × AV × Unit) NN (fun i15 s12 h13 d14 =>
pInt .lss s12.1 s12.2.1 fun v16 =>
pCond v16 (
pIdxS s12.2.2.1 s12.1 2 fun v17 =>
pLoadN h13 v17 2 fun v18 =>
pBox h13 53 (.agg [(.int .i64 (.ofNat 0)), (.int .u64 (.ofNat 0))]) fun v19 h20 =>
pStore h20 v19 v18 2 fun h21 =>
pFieldA v19 0 fun v22 =>
pLoad1 h21 v22 fun v23 =>
pFieldA v19 1 fun v24 =>
pLoad1 h21 v24 fun v25 =>
pCall c (.fn 87 [] []) [s12.2.2.2.2.1, v23, v25] h21 fun v26 h27 =>
pInt .neq v26 (.int .i64 (.ofNat 0)) fun v28 =>
pCond v28 (
pCall c (.fn 95 [] []) [s12.2.2.2.2.1] h27 fun v29 h30 =>
pNil v29 fun v31 =>
pFieldA v31 0 fun v32 =>
pStore h30 v32 s12.2.2.2.1 1 fun h33 =>
pLeave d14 h33 fun h34 =>
some (v26, h34)) (
pInt .add s12.1 (.int .i64 (.ofNat 1)) fun v35 =>
i15 (v35, s12.2.1, s12.2.2.1, s12.2.2.2.1, s12.2.2.2.2.1, ()) h27 d14)) (
pLeave d14 h13 fun h36 =>
some ((.int .i64 (.ofNat 0)), h36))) ((.int .i64 (.ofNat 0)), v11, a1, v0, a0, ()) h10 []
theorem S82_eq (c : CV) (a0 a1 : AV) (h : AH) : enterK Try.prog NN P82 c 82 [a0, a1] h = S82 c a0 a1 h := by kernel_rfl
def W82 (c : CV) (l : List AV) (h : AH) : R := match l with | [a0, a1] => S82 c a0 a1 h | _ => none
theorem W82_ok : WOk Try.prog 82 W82 := by
  intro c l h r e
  unfold W82 at e
  split at e
  · exact ⟨P82, by rw [S82_eq]; exact e⟩
  · cases e
/- (*quietus/levels.Levels).Free -/
def P83 : Pl := .z
def S83 (c : CV) (a0 a1 : AV) (h : AH) : R :=
pCall c (.fn 95 [] []) [a0] h fun v0 h1 =>
pNil v0 fun v2 =>
pFieldA v2 1 fun v3 =>
pLoad1 h1 v3 fun v4 =>
pBuildS h1 3 [(.int .i64 (.ofNat 0))] 1 [(0, 1, a1)] fun v5 h6 =>
pAppend h6 3 1 v4 v5 fun v7 h8 =>
pNil v0 fun v9 =>
pFieldA v9 1 fun v10 =>
pStore h8 v10 v7 1 fun h11 =>
some ((.tup []), h11)
theorem S83_eq (c : CV) (a0 a1 : AV) (h : AH) : enterK Try.prog NN P83 c 83 [a0, a1] h = S83 c a0 a1 h := by kernel_rfl
def W83 (c : CV) (l : List AV) (h : AH) : R := match l with | [a0, a1] => S83 c a0 a1 h | _ => none
theorem W83_ok : WOk Try.prog 83 W83 := by
  intro c l h r e
  unfold W83 at e
  split at e
  · exact ⟨P83, by rw [S83_eq]; exact e⟩
  · cases e
/- quietus/arena.Class -/
def P84 : Pl := (.n none .z (.n none .z (.n none (.n none .z (.n none (.n (some [3, 0]) .z .z) .z)) .z)))
def S84 (c : CV) (a0 : AV) (h : AH) : R :=
pInt .lss a0 (.int .i64 (.ofNat 1)) fun v0 =>
pCond v0 (
some ((.int .i64 (.ofNat 0)), h)) (
loopC (σ := AV × AV × Unit) NN (fun i4 s1 h2 d3 =>
pInt .leq s1.1 (.int .i64 (.ofNat 4)) fun v5 =>
pCond v5 (
pCall c (.fn 26 [] []) [s1.1] h2 fun v6 h7 =>
pInt .geq v6 s1.2.1 fun v8 =>
pCond v8 (
pLeave d3 h7 fun h9 =>
some (s1.1, h9)) (
pInt .add s1.1 (.int .i64 (.ofNat 1)) fun v10 =>
i4 (v10, s1.2.1, ()) h7 d3)) (
pLeave d3 h2 fun h11 =>
some ((.int .i64 (.ofNat 0)), h11))) ((.int .i64 (.ofNat 1)), a0, ()) h [])
theorem S84_eq (c : CV) (a0 : AV) (h : AH) : enterK Try.prog NN P84 c 84 [a0] h = S84 c a0 h := by kernel_rfl
def W84 (c : CV) (l : List AV) (h : AH) : R := match l with | [a0] => S84 c a0 h | _ => none
theorem W84_ok : WOk Try.prog 84 W84 := by
  intro c l h r e
  unfold W84 at e
  split at e
  · exact ⟨P84, by rw [S84_eq]; exact e⟩
  · cases e
/- quietus/arena.again -/
def P85 : Pl := (.n none .z (.n none .z (.n none .z (.n none .z (.n (some [10, 8]) .z .z)))))
def S85 (c : CV) (a0 a1 a2 : AV) (h : AH) : R :=
pInt .geq a2 (.int .u64 (.ofNat 2147483648)) fun v0 =>
pCond v0 (
some ((.tup [(.int .i64 (.ofNat 0)), (.int .i64 (.ofNat 2))]), h)) (
pConvI .i64 a2 fun v1 =>
pCall c (.fn 60 [] []) [a0, v1] h fun v2 h3 =>
pExtract v2 0 fun v4 =>
pExtract v2 1 fun v5 =>
joinC (α := AV × AV × Unit → AH → List Nat → R) (fun s6 h7 d8 =>
pInt .neq s6.1 (.int .i64 (.ofNat 0)) fun v10 =>
pCond v10 (
pLeave d8 h7 fun h11 =>
some ((.tup [(.int .i64 (.ofNat 0)), s6.1]), h11)) (
pLeave d8 h7 fun h12 =>
some ((.tup [s6.2.1, (.int .i64 (.ofNat 0))]), h12))) fun j9 =>
pInt .eql v5 (.int .i64 (.ofNat 0)) fun v13 =>
pCond v13 (
pCall c (.fn 55 [] []) [a1] h3 fun v14 h15 =>
pBuild [(.int .i64 (.ofNat 0)), (.int .u64 (.ofNat 0))] [(0, 1, v14), (1, 1, v4)] fun v16 =>
pInt .sub v1 (.int .i64 (.ofNat 1)) fun v17 =>
pInt .add a1 (.int .i64 (.ofNat 8)) fun v18 =>
pConvI .u64 v18 fun v19 =>
pBuild [(.int .i64 (.ofNat 0)), (.int .u64 (.ofNat 0))] [(0, 1, v17), (1, 1, v19)] fun v20 =>
pBuildS h15 53 [(.int .i64 (.ofNat 0)), (.int .u64 (.ofNat 0))] 2 [(0, 2, v16), (2, 2, v20)] fun v21 h22 =>
pCall c (.fn 61 [] []) [a0, v21] h22 fun v23 h24 =>
j9 (v23, v1, ()) h24 []) (
j9 (v5, v1, ()) h3 []))
theorem S85_eq (c : CV) (a0 a1 a2 : AV) (h : AH) : enterK Try.prog NN P85 c 85 [a0, a1, a2] h = S85 c a0 a1 a2 h := by kernel_rfl
def W85 (c : CV) (l : List AV) (h : AH) : R := match l with | [a0, a1, a2] => S85 c a0 a1 a2 h | _ => none
theorem W85_ok : WOk Try.prog 85 W85 := by
  intro c l h r e
  unfold W85 at e
  split at e
  · exact ⟨P85, by rw [S85_eq]; exact e⟩
  · cases e
/- quietus/arena.grown -/
def P86 : Pl := (.n none .z (.n none .z (.n none .z (.n none (.n none (.r [[22, 20, 6, 1, 0], [33, 24, 6, 1, 0]]) .z) .z))))
def S86 (c : CV) (a0 a1 : AV) (h : AH) : R :=
pCall c (.fn 60 [] []) [a0, (.int .i64 (.ofNat 5))] h fun v0 h1 =>
pExtract v0 0 fun v2 =>
pExtract v0 1 fun v3 =>
pInt .neq v3 (.int .i64 (.ofNat 0)) fun v4 =>
pCond v4 (
some ((.tup [(.int .i64 (.ofNat 0)), v3]), h1)) (
pInt .lss v2 (.int .u64 (.ofNat 14)) fun v5 =>
joinC (α := AV × AV × AV × AV × AV × Unit → AH → R) (fun s6 h7 =>
pPick s6.2.1 (.bool true) s6.1 fun v9 =>
joinC (α := AV × AV × AV × AV × AV × Unit → AH → R) (fun s10 h11 =>
pPick s10.2.1 (.bool true) s10.1 fun v13 =>
pCond v13 (
some ((.tup [(.int .i64 (.ofNat 0)), (.int .i64 (.ofNat 4))]), h11)) (
pConvI .i64 s10.2.2.1 fun v14 =>
pInt .add v14 (.int .i64 (.ofNat 1)) fun v15 =>
pCall c (.fn 26 [] []) [s10.2.2.2.1] h11 fun v16 h17 =>
pInt .add v15 v16 fun v18 =>
pConvI .u64 v18 fun v19 =>
pBuild [(.int .i64 (.ofNat 0)), (.int .u64 (.ofNat 0))] [(0, 1, (.int .i64 (.ofNat 5))), (1, 1, v19)] fun v20 =>
pInt .add s10.2.2.2.1 (.int .i64 (.ofNat 8)) fun v21 =>
pConvI .u64 v21 fun v22 =>
pBuild [(.int .i64 (.ofNat 0)), (.int .u64 (.ofNat 0))] [(0, 1, v14), (1, 1, v22)] fun v23 =>
pBuildS h17 53 [(.int .i64 (.ofNat 0)), (.int .u64 (.ofNat 0))] 2 [(0, 2, v20), (2, 2, v23)] fun v24 h25 =>
pCall c (.fn 61 [] []) [s10.2.2.2.2.1, v24] h25 fun v26 h27 =>
pInt .neq v26 (.int .i64 (.ofNat 0)) fun v28 =>
pCond v28 (
some ((.tup [(.int .i64 (.ofNat 0)), v26]), h27)) (
pInt .add v14 (.int .i64 (.ofNat 1)) fun v29 =>
some ((.tup [v29, (.int .i64 (.ofNat 0))]), h27)))) fun j12 =>
pWant v9 false (
pConvI .i64 s6.2.2.1 fun v30 =>
pInt .add v30 (.int .i64 (.ofNat 1)) fun v31 =>
pCall c (.fn 26 [] []) [s6.2.2.2.1] h7 fun v32 h33 =>
pInt .add v31 v32 fun v34 =>
pCall c (.fn 29 [] []) [s6.2.2.2.2.1] h33 fun v35 h36 =>
pInt .gtr v34 v35 fun v37 =>
j12 (v37, v9, s6.2.2.1, s6.2.2.2.1, s6.2.2.2.2.1, ()) h36) (
j12 (.undef, v9, s6.2.2.1, s6.2.2.2.1, s6.2.2.2.2.1, ()) h7)) fun j8 =>
pWant v5 false (
pInt .geq v2 (.int .u64 (.ofNat 2147483648)) fun v38 =>
j8 (v38, v5, v2, a1, a0, ()) h1) (
j8 (.undef, v5, v2, a1, a0, ()) h1))
theorem S86_eq (c : CV) (a0 a1 : AV) (h : AH) : enterK Try.prog NN P86 c 86 [a0, a1] h = S86 c a0 a1 h := by kernel_rfl
def W86 (c : CV) (l : List AV) (h : AH) : R := match l with | [a0, a1] => S86 c a0 a1 h | _ => none
theorem W86_ok : WOk Try.prog 86 W86 := by
  intro c l h r e
  unfold W86 at e
  split at e
  · exact ⟨P86, by rw [S86_eq]; exact e⟩
  · cases e
/- (*quietus/levels.Levels).Put -/
def P87 : Pl := (.n none .z (.n none (.n none (.r [[14, 12, 2, 1, 0]]) .z) (.n none .z (.n none (.n none .z (.n none (.r [[32, 29, 7, 2, 1]]) .z)) .z))))
def S87 (c : CV) (a0 a1 a2 : AV) (h : AH) : R :=
pInt .lss a1 (.int .i64 (.ofNat 1)) fun v0 =>
joinC (α := AV × AV × AV × AV × AV × Unit → AH → R) (fun s1 h2 =>
pPick s1.2.1 (.bool true) s1.1 fun v4 =>
pCond v4 (
some ((.int .i64 (.ofNat 2)), h2)) (
pCall c (.fn 95 [] []) [s1.2.2.2.2.1] h2 fun v5 h6 =>
pNil v5 fun v7 =>
pFieldA v7 0 fun v8 =>
pLoad1 h6 v8 fun v9 =>
pCall c (.fn 94 [] []) [v9, s1.2.2.2.1] h6 fun v10 h11 =>
pExtract v10 0 fun _ =>
pExtract v10 1 fun v13 =>
pUn .not v13 fun v14 =>
joinC (α := AV × AV × AV × AV × AV × Unit → AH → R) (fun s15 h16 =>
pPick s15.2.1 s15.1 (.bool false) fun v18 =>
pCond v18 (
some ((.int .i64 (.ofNat 5)), h16)) (
pCall c (.fn 92 [] []) [s15.2.2.1, s15.2.2.2.2.1, s15.2.2.2.1] h16 fun v19 h20 =>
some (v19, h20))) fun j17 =>
pWant v14 true (
pCall c (.fn 96 [] []) [s1.2.2.2.2.1] h11 fun v21 h22 =>
pInt .eql v21 (.int .i64 (.ofNat 0)) fun v23 =>
j17 (v23, v14, v9, s1.2.2.1, s1.2.2.2.1, ()) h22) (
j17 (.undef, v14, v9, s1.2.2.1, s1.2.2.2.1, ()) h11))) fun j3 =>
pWant v0 false (
pInt .geq a1 (.int .i64 (.ofNat 256)) fun v24 =>
j3 (v24, v0, a2, a1, a0, ()) h) (
j3 (.undef, v0, a2, a1, a0, ()) h)
theorem S87_eq (c : CV) (a0 a1 a2 : AV) (h : AH) : enterK Try.prog NN P87 c 87 [a0, a1, a2] h = S87 c a0 a1 a2 h := by kernel_rfl
def W87 (c : CV) (l : List AV) (h : AH) : R := match l with | [a0, a1, a2] => S87 c a0 a1 a2 h | _ => none
theorem W87_ok : WOk Try.prog 87 W87 := by
  intro c l h r e
  unfold W87 at e
  split at e
  · exact ⟨P87, by rw [S87_eq]; exact e⟩
  · cases e
/- quietus/arena.asked -/
def P88 : Pl := (.n none .z (.n none (.n none (.r [[17, 13, 1, 0]]) .z) .z))
def S88 (c : CV) (a0 a1 : AV) (h : AH) : R :=
pInt .leq a1 (.int .i64 (.ofNat 14)) fun v0 =>
joinC (α := AV × AV × AV × AV × Unit → AH → R) (fun s1 h2 =>
pPick s1.2.1 (.bool true) s1.1 fun v4 =>
pCond v4 (
some ((.tup [(.int .i64 (.ofNat 0)), (.bool false), (.int .i64 (.ofNat 2))]), h2)) (
pInt .sub s1.2.2.1 (.int .i64 (.ofNat 1)) fun v5 =>
pCall c (.fn 60 [] []) [s1.2.2.2.1, v5] h2 fun v6 h7 =>
pExtract v6 0 fun v8 =>
pExtract v6 1 fun v9 =>
pInt .neq v9 (.int .i64 (.ofNat 0)) fun v10 =>
pCond v10 (
some ((.tup [(.int .i64 (.ofNat 0)), (.bool false), v9]), h7)) (
pCall c (.fn 54 [] []) [v8] h7 fun v11 h12 =>
pExtract v11 0 fun v13 =>
pExtract v11 1 fun v14 =>
pInt .eql v13 (.int .i64 (.ofNat 0)) fun v15 =>
pCond v15 (
some ((.tup [(.int .i64 (.ofNat 0)), (.bool false), (.int .i64 (.ofNat 2))]), h12)) (
some ((.tup [v13, v14, (.int .i64 (.ofNat 0))]), h12))))) fun j3 =>
pWant v0 false (
pCall c (.fn 29 [] []) [a0] h fun v16 h17 =>
pInt .geq a1 v16 fun v18 =>
j3 (v18, v0, a1, a0, ()) h17) (
j3 (.undef, v0, a1, a0, ()) h)
theorem S88_eq (c : CV) (a0 a1 : AV) (h : AH) : enterK Try.prog NN P88 c 88 [a0, a1] h = S88 c a0 a1 h := by kernel_rfl
def W88 (c : CV) (l : List AV) (h : AH) : R := match l with | [a0, a1] => S88 c a0 a1 h | _ => none
theorem W88_ok : WOk Try.prog 88 W88 := by
  intro c l h r e
  unfold W88 at e
  split at e
  · exact ⟨P88, by rw [S88_eq]; exact e⟩
  · cases e
/- quietus/quietusref7.Whole -/
def P89 : Pl := (.n none .z (.n none .z (.n none (.n none .z (.n none (.n (some [6, 5, 0]) (.n none .z (.n none (.n none (.n none .z (.n (some [7, 6, 5, 0]) .z .z)) .z) .z)) .z) .z)) .z)))
def S89 (c : CV) (a0 a1 : AV) (h : AH) : R :=
pLenS a0 fun v0 =>
pCall c (.fn 97 [] []) [v0, a1] h fun v1 h2 =>
loopC (σ := AV × AV × AV × Unit) NN (fun i6 s3 h4 d5 =>
pNil s3.2.1 fun v7 =>
pFieldA v7 0 fun v8 =>
pLoad1 h4 v8 fun v9 =>
pInt .lss s3.1 v9 fun v10 =>
pCond v10 (
joinC (α := AV × AV × AV × AV × Unit → AH → List Nat → R) (fun s11 h12 d13 =>
pNil s11.2.2.1 fun v15 =>
pFieldA v15 1 fun v16 =>
pLoad1 h12 v16 fun v17 =>
pBuild [(.int .i64 (.ofNat 0)), (.int .u64 (.ofNat 0))] [(0, 1, s11.2.1), (1, 1, s11.1)] fun v18 =>
pBuildS h12 53 [(.int .i64 (.ofNat 0)), (.int .u64 (.ofNat 0))] 1 [(0, 2, v18)] fun v19 h20 =>
pAppend h20 53 2 v17 v19 fun v21 h22 =>
pNil s11.2.2.1 fun v23 =>
pFieldA v23 1 fun v24 =>
pStore h22 v24 v21 1 fun h25 =>
pInt .add s11.2.1 (.int .i64 (.ofNat 1)) fun v26 =>
i6 (v26, s11.2.2.1, s11.2.2.2.1, ()) h25 d13) fun j14 =>
pLenS s3.2.2.1 fun v27 =>
pInt .lss s3.1 v27 fun v28 =>
pCond v28 (
pIdxS s3.2.2.1 s3.1 1 fun v29 =>
pLoad1 h4 v29 fun v30 =>
j14 (v30, s3.1, s3.2.1, s3.2.2.1, ()) h4 d5) (
j14 ((.int .u64 (.ofNat 0)), s3.1, s3.2.1, s3.2.2.1, ()) h4 d5)) (
pLeave d5 h4 fun h31 =>
some (s3.2.1, h31))) ((.int .i64 (.ofNat 1)), v1, a0, ()) h2 []
theorem S89_eq (c : CV) (a0 a1 : AV) (h : AH) : enterK Try.prog NN P89 c 89 [a0, a1] h = S89 c a0 a1 h := by kernel_rfl
def W89 (c : CV) (l : List AV) (h : AH) : R := match l with | [a0, a1] => S89 c a0 a1 h | _ => none
theorem W89_ok : WOk Try.prog 89 W89 := by
  intro c l h r e
  unfold W89 at e
  split at e
  · exact ⟨P89, by rw [S89_eq]; exact e⟩
  · cases e
/- (*quietus/quietusref7.View).In -/
def P90 : Pl := (.n none .z (.n none (.r [[13, 7]]) .z))
def S90 (_ : CV) (a0 a1 : AV) (h : AH) : R :=
pInt .geq a1 (.int .i64 (.ofNat 1)) fun v0 =>
joinC (α := AV × AV × Unit → AH → R) (fun s1 h2 =>
pPick s1.2.1 s1.1 (.bool false) fun v4 =>
some (v4, h2)) fun j3 =>
pWant v0 true (
pNil a0 fun v5 =>
pFieldA v5 0 fun v6 =>
pLoad1 h v6 fun v7 =>
pInt .lss a1 v7 fun v8 =>
j3 (v8, v0, ()) h) (
j3 (.undef, v0, ()) h)
theorem S90_eq (c : CV) (a0 a1 : AV) (h : AH) : enterK Try.prog NN P90 c 90 [a0, a1] h = S90 c a0 a1 h := by kernel_rfl
def W90 (c : CV) (l : List AV) (h : AH) : R := match l with | [a0, a1] => S90 c a0 a1 h | _ => none
theorem W90_ok : WOk Try.prog 90 W90 := by
  intro c l h r e
  unfold W90 at e
  split at e
  · exact ⟨P90, by rw [S90_eq]; exact e⟩
  · cases e
/- slices.Backward[[]*quietus/levels.level,*quietus/levels.level]$1 -/
def P91 : Pl := (.n none .z (.n none (.n (some [3, 1, 0]) .z .z) .z))
def S91 (c : CV) (a0 a1 : AV) (h : AH) : R :=
pLoad1 h a1 fun v0 =>
pLenS v0 fun v1 =>
pInt .sub v1 (.int .i64 (.ofNat 1)) fun v2 =>
loopC (σ := AV × AV × AV × Unit) NN (fun i6 s3 h4 d5 =>
pInt .geq s3.1 (.int .i64 (.ofNat 0)) fun v7 =>
pCond v7 (
pLoad1 h4 s3.2.1 fun v8 =>
pIdxS v8 s3.1 1 fun v9 =>
pLoad1 h4 v9 fun v10 =>
pCall c s3.2.2.1 [s3.1, v10] h4 fun v11 h12 =>
pUn .not v11 fun v13 =>
pCond v13 (
pLeave d5 h12 fun h14 =>
some ((.tup []), h14)) (
pInt .sub s3.1 (.int .i64 (.ofNat 1)) fun v15 =>
i6 (v15, s3.2.1, s3.2.2.1, ()) h12 d5)) (
pLeave d5 h4 fun h16 =>
some ((.tup []), h16))) (v2, a1, a0, ()) h []
theorem S91_eq (c : CV) (a0 a1 : AV) (h : AH) : enterK Try.prog NN P91 c 91 [a0, a1] h = S91 c a0 a1 h := by kernel_rfl
def W91 (c : CV) (l : List AV) (h : AH) : R := match l with | [a0, a1] => S91 c a0 a1 h | _ => none
theorem W91_ok : WOk Try.prog 91 W91 := by
  intro c l h r e
  unfold W91 at e
  split at e
  · exact ⟨P91, by rw [S91_eq]; exact e⟩
  · cases e
/- (*quietus/writes.Writes).Put -/
def P92 : Pl := (.n none .z (.n none (.n none (.r [[12, 10, 2, 1, 0]]) .z) .z))
def S92 (c : CV) (a0 a1 a2 : AV) (h : AH) : R :=
pInt .lss a1 (.int .i64 (.ofNat 1)) fun v0 =>
joinC (α := AV × AV × AV × AV × AV × Unit → AH → R) (fun s1 h2 =>
pPick s1.2.1 (.bool true) s1.1 fun v4 =>
pCond v4 (
some ((.int .i64 (.ofNat 2)), h2)) (
pCall c (.fn 98 [] []) [s1.2.2.2.2.1, s1.2.2.2.1] h2 fun v5 h6 =>
pInt .geq v5 (.int .i64 (.ofNat 0)) fun v7 =>
pCond v7 (
pNil s1.2.2.2.2.1 fun v8 =>
pFieldA v8 1 fun v9 =>
pLoad1 h6 v9 fun v10 =>
pIdxS v10 v5 2 fun v11 =>
pFieldA v11 1 fun v12 =>
pStore h6 v12 s1.2.2.1 1 fun h13 =>
some ((.int .i64 (.ofNat 0)), h13)) (
pNil s1.2.2.2.2.1 fun v14 =>
pFieldA v14 1 fun v15 =>
pLoad1 h6 v15 fun v16 =>
pLenS v16 fun v17 =>
pNil s1.2.2.2.2.1 fun v18 =>
pFieldA v18 0 fun v19 =>
pLoad1 h6 v19 fun v20 =>
pInt .geq v17 v20 fun v21 =>
pCond v21 (
some ((.int .i64 (.ofNat 5)), h6)) (
pNil s1.2.2.2.2.1 fun v22 =>
pFieldA v22 1 fun v23 =>
pLoad1 h6 v23 fun v24 =>
pBuild [(.int .i64 (.ofNat 0)), (.int .u64 (.ofNat 0))] [(0, 1, s1.2.2.2.1), (1, 1, s1.2.2.1)] fun v25 =>
pBuildS h6 53 [(.int .i64 (.ofNat 0)), (.int .u64 (.ofNat 0))] 1 [(0, 2, v25)] fun v26 h27 =>
pAppend h27 53 2 v24 v26 fun v28 h29 =>
pNil s1.2.2.2.2.1 fun v30 =>
pFieldA v30 1 fun v31 =>
pStore h29 v31 v28 1 fun h32 =>
some ((.int .i64 (.ofNat 0)), h32))))) fun j3 =>
pWant v0 false (
pInt .geq a1 (.int .i64 (.ofNat 256)) fun v33 =>
j3 (v33, v0, a2, a1, a0, ()) h) (
j3 (.undef, v0, a2, a1, a0, ()) h)
theorem S92_eq (c : CV) (a0 a1 a2 : AV) (h : AH) : enterK Try.prog NN P92 c 92 [a0, a1, a2] h = S92 c a0 a1 a2 h := by kernel_rfl
def W92 (c : CV) (l : List AV) (h : AH) : R := match l with | [a0, a1, a2] => S92 c a0 a1 a2 h | _ => none
theorem W92_ok : WOk Try.prog 92 W92 := by
  intro c l h r e
  unfold W92 at e
  split at e
  · exact ⟨P92, by rw [S92_eq]; exact e⟩
  · cases e
/- slices.Clone[[]quietus/api.Cell,quietus/api.Cell] -/
def P93 : Pl := .z
def S93 (_ : CV) (a0 : AV) (h : AH) : R :=
pEq .slc false a0 .nils fun v0 =>
pCond v0 (
some (.nils, h)) (
pBuildS h 53 [(.int .i64 (.ofNat 0)), (.int .u64 (.ofNat 0))] 0 [] fun v1 h2 =>
pAppend h2 53 2 v1 a0 fun v3 h4 =>
some (v3, h4))
theorem S93_eq (c : CV) (a0 : AV) (h : AH) : enterK Try.prog NN P93 c 93 [a0] h = S93 c a0 h := by kernel_rfl
def W93 (c : CV) (l : List AV) (h : AH) : R := match l with | [a0] => S93 c a0 h | _ => none
theorem W93_ok : WOk Try.prog 93 W93 := by
  intro c l h r e
  unfold W93 at e
  split at e
  · exact ⟨P93, by rw [S93_eq]; exact e⟩
  · cases e
/- (*quietus/writes.Writes).Get -/
def P94 : Pl := .z
def S94 (c : CV) (a0 a1 : AV) (h : AH) : R :=
pCall c (.fn 98 [] []) [a0, a1] h fun v0 h1 =>
pInt .geq v0 (.int .i64 (.ofNat 0)) fun v2 =>
pCond v2 (
pNil a0 fun v3 =>
pFieldA v3 1 fun v4 =>
pLoad1 h1 v4 fun v5 =>
pIdxS v5 v0 2 fun v6 =>
pFieldA v6 1 fun v7 =>
pLoad1 h1 v7 fun v8 =>
some ((.tup [v8, (.bool true)]), h1)) (
some ((.tup [(.int .u64 (.ofNat 0)), (.bool false)]), h1))
theorem S94_eq (c : CV) (a0 a1 : AV) (h : AH) : enterK Try.prog NN P94 c 94 [a0, a1] h = S94 c a0 a1 h := by kernel_rfl
def W94 (c : CV) (l : List AV) (h : AH) : R := match l with | [a0, a1] => S94 c a0 a1 h | _ => none
theorem W94_ok : WOk Try.prog 94 W94 := by
  intro c l h r e
  unfold W94 at e
  split at e
  · exact ⟨P94, by rw [S94_eq]; exact e⟩
  · cases e
/- (*quietus/levels.Levels).in -/
def P95 : Pl := .z
def S95 (_ : CV) (a0 : AV) (h : AH) : R :=
pNil a0 fun v0 =>
pFieldA v0 1 fun v1 =>
pLoad1 h v1 fun v2 =>
pNil a0 fun v3 =>
pFieldA v3 1 fun v4 =>
pLoad1 h v4 fun v5 =>
pLenS v5 fun v6 =>
pInt .sub v6 (.int .i64 (.ofNat 1)) fun v7 =>
pIdxS v2 v7 1 fun v8 =>
pLoad1 h v8 fun v9 =>
some (v9, h)
theorem S95_eq (c : CV) (a0 : AV) (h : AH) : enterK Try.prog NN P95 c 95 [a0] h = S95 c a0 h := by kernel_rfl
def W95 (c : CV) (l : List AV) (h : AH) : R := match l with | [a0] => S95 c a0 h | _ => none
theorem W95_ok : WOk Try.prog 95 W95 := by
  intro c l h r e
  unfold W95 at e
  split at e
  · exact ⟨P95, by rw [S95_eq]; exact e⟩
  · cases e
/- (*quietus/levels.Levels).Room -/
def P96 : Pl := (.n none .z (.n none .z (.n none (.n none .z (.n none (.n (some [15, 14, 13, 3]) .z .z) .z)) .z)))
def S96 (c : CV) (a0 : AV) (h : AH) : R :=
pNil a0 fun v0 =>
pFieldA v0 0 fun v1 =>
pLoad1 h v1 fun v2 =>
pNil a0 fun v3 =>
pFieldA v3 1 fun v4 =>
pLoad1 h v4 fun v5 =>
pLenS v5 fun v6 =>
loopC (σ := AV × AV × AV × AV × Unit) NN (fun i10 s7 h8 d9 =>
pInt .lss s7.1 s7.2.1 fun v11 =>
pCond v11 (
pIdxS s7.2.2.1 s7.1 1 fun v12 =>
pLoad1 h8 v12 fun v13 =>
pNil v13 fun v14 =>
pFieldA v14 0 fun v15 =>
pLoad1 h8 v15 fun v16 =>
pCall c (.fn 99 [] []) [v16] h8 fun v17 h18 =>
pInt .sub s7.2.2.2.1 v17 fun v19 =>
pInt .add s7.1 (.int .i64 (.ofNat 1)) fun v20 =>
i10 (v20, s7.2.1, s7.2.2.1, v19, ()) h18 d9) (
pLeave d9 h8 fun h21 =>
some (s7.2.2.2.1, h21))) ((.int .i64 (.ofNat 0)), v6, v5, v2, ()) h []
theorem S96_eq (c : CV) (a0 : AV) (h : AH) : enterK Try.prog NN P96 c 96 [a0] h = S96 c a0 h := by kernel_rfl
def W96 (c : CV) (l : List AV) (h : AH) : R := match l with | [a0] => S96 c a0 h | _ => none
theorem W96_ok : WOk Try.prog 96 W96 := by
  intro c l h r e
  unfold W96 at e
  split at e
  · exact ⟨P96, by rw [S96_eq]; exact e⟩
  · cases e
/- quietus/quietusref7.NewView -/
def P97 : Pl := .z
def S97 (c : CV) (a0 a1 : AV) (h : AH) : R :=
pCall c (.fn 100 [] []) [a0, (.int .i64 (.ofNat 32)), (.int .i64 (.ofNat 256))] h fun v0 h1 =>
pCall c (.fn 101 [] []) [a1] h1 fun v2 h3 =>
pBuild [(.int .i64 (.ofNat 0)), .nils, .nilp, (.int .i64 (.ofNat 0))] [(0, 1, v0), (2, 1, v2)] fun v4 =>
pBox h3 143 v4 fun v5 h6 =>
some (v5, h6)
theorem S97_eq (c : CV) (a0 a1 : AV) (h : AH) : enterK Try.prog NN P97 c 97 [a0, a1] h = S97 c a0 a1 h := by kernel_rfl
def W97 (c : CV) (l : List AV) (h : AH) : R := match l with | [a0, a1] => S97 c a0 a1 h | _ => none
theorem W97_ok : WOk Try.prog 97 W97 := by
  intro c l h r e
  unfold W97 at e
  split at e
  · exact ⟨P97, by rw [S97_eq]; exact e⟩
  · cases e
/- (*quietus/writes.Writes).find -/
def P98 : Pl := .z
def S98 (c : CV) (a0 a1 : AV) (h : AH) : R :=
pBox h 3 a1 fun v0 h1 =>
pNil a0 fun v2 =>
pFieldA v2 1 fun v3 =>
pLoad1 h1 v3 fun v4 =>
pCall c (.fn 102 [] []) [v4, (.fn 103 [] [v0])] h1 fun v5 h6 =>
some (v5, h6)
theorem S98_eq (c : CV) (a0 a1 : AV) (h : AH) : enterK Try.prog NN P98 c 98 [a0, a1] h = S98 c a0 a1 h := by kernel_rfl
def W98 (c : CV) (l : List AV) (h : AH) : R := match l with | [a0, a1] => S98 c a0 a1 h | _ => none
theorem W98_ok : WOk Try.prog 98 W98 := by
  intro c l h r e
  unfold W98 at e
  split at e
  · exact ⟨P98, by rw [S98_eq]; exact e⟩
  · cases e
/- (*quietus/writes.Writes).Len -/
def P99 : Pl := .z
def S99 (_ : CV) (a0 : AV) (h : AH) : R :=
pNil a0 fun v0 =>
pFieldA v0 1 fun v1 =>
pLoad1 h v1 fun v2 =>
pLenS v2 fun v3 =>
some (v3, h)
theorem S99_eq (c : CV) (a0 : AV) (h : AH) : enterK Try.prog NN P99 c 99 [a0] h = S99 c a0 h := by kernel_rfl
def W99 (c : CV) (l : List AV) (h : AH) : R := match l with | [a0] => S99 c a0 h | _ => none
theorem W99_ok : WOk Try.prog 99 W99 := by
  intro c l h r e
  unfold W99 at e
  split at e
  · exact ⟨P99, by rw [S99_eq]; exact e⟩
  · cases e
/- quietus/quietusref1.Held -/
def P100 : Pl := .z
def S100 (_ : CV) (a0 a1 a2 : AV) (h : AH) : R :=
pInt .lss a0 a1 fun v0 =>
pCond v0 (
some (a1, h)) (
pInt .gtr a0 a2 fun v1 =>
pCond v1 (
some (a2, h)) (
some (a0, h)))
theorem S100_eq (c : CV) (a0 a1 a2 : AV) (h : AH) : enterK Try.prog NN P100 c 100 [a0, a1, a2] h = S100 c a0 a1 a2 h := by kernel_rfl
def W100 (c : CV) (l : List AV) (h : AH) : R := match l with | [a0, a1, a2] => S100 c a0 a1 a2 h | _ => none
theorem W100_ok : WOk Try.prog 100 W100 := by
  intro c l h r e
  unfold W100 at e
  split at e
  · exact ⟨P100, by rw [S100_eq]; exact e⟩
  · cases e
/- quietus/quietusref7.NewLevels -/
def P101 : Pl := .z
def S101 (c : CV) (a0 : AV) (h : AH) : R :=
pCall c (.fn 100 [] []) [a0, (.int .i64 (.ofNat 0)), (.int .i64 (.ofNat 96))] h fun v0 h1 =>
pMake h1 171 [.nils, .nils] (.int .i64 (.ofNat 1)) (.int .i64 (.ofNat 1)) fun v2 h3 =>
pBuild [(.int .i64 (.ofNat 0)), .nils] [(0, 1, v0), (1, 1, v2)] fun v4 =>
pBox h3 154 v4 fun v5 h6 =>
some (v5, h6)
theorem S101_eq (c : CV) (a0 : AV) (h : AH) : enterK Try.prog NN P101 c 101 [a0] h = S101 c a0 h := by kernel_rfl
def W101 (c : CV) (l : List AV) (h : AH) : R := match l with | [a0] => S101 c a0 h | _ => none
theorem W101_ok : WOk Try.prog 101 W101 := by
  intro c l h r e
  unfold W101 at e
  split at e
  · exact ⟨P101, by rw [S101_eq]; exact e⟩
  · cases e
/- slices.IndexFunc[[]quietus/api.Cell,quietus/api.Cell] -/
def P102 : Pl := (.n none .z (.n none (.n none .z (.n none (.n (some [8, 7, 1, 0]) .z .z) .z)) .z))
def S102 (c : CV) (a0 a1 : AV) (h : AH) : R :=
pLenS a0 fun v0 =>
loopC (σ := AV × AV × AV × AV × Unit) NN (fun i4 s1 h2 d3 =>
pInt .lss s1.1 s1.2.1 fun v5 =>
pCond v5 (
pIdxS s1.2.2.2.1 s1.1 2 fun v6 =>
pLoadN h2 v6 2 fun v7 =>
pCall c s1.2.2.1 [v7] h2 fun v8 h9 =>
pCond v8 (
pLeave d3 h9 fun h10 =>
some (s1.1, h10)) (
pInt .add s1.1 (.int .i64 (.ofNat 1)) fun v11 =>
i4 (v11, s1.2.1, s1.2.2.1, s1.2.2.2.1, ()) h9 d3)) (
pLeave d3 h2 fun h12 =>
some ((.int .i64 (.negSucc 0)), h12))) ((.int .i64 (.ofNat 0)), v0, a1, a0, ()) h []
theorem S102_eq (c : CV) (a0 a1 : AV) (h : AH) : enterK Try.prog NN P102 c 102 [a0, a1] h = S102 c a0 a1 h := by kernel_rfl
def W102 (c : CV) (l : List AV) (h : AH) : R := match l with | [a0, a1] => S102 c a0 a1 h | _ => none
theorem W102_ok : WOk Try.prog 102 W102 := by
  intro c l h r e
  unfold W102 at e
  split at e
  · exact ⟨P102, by rw [S102_eq]; exact e⟩
  · cases e
/- (*quietus/writes.Writes).find$1 -/
def P103 : Pl := .z
def S103 (_ : CV) (a0 a1 : AV) (h : AH) : R :=
pBox h 53 a0 fun v0 h1 =>
pFieldA v0 0 fun v2 =>
pLoad1 h1 v2 fun v3 =>
pLoad1 h1 a1 fun v4 =>
pInt .eql v3 v4 fun v5 =>
some (v5, h1)
theorem S103_eq (c : CV) (a0 a1 : AV) (h : AH) : enterK Try.prog NN P103 c 103 [a0, a1] h = S103 c a0 a1 h := by kernel_rfl
def W103 (c : CV) (l : List AV) (h : AH) : R := match l with | [a0, a1] => S103 c a0 a1 h | _ => none
theorem W103_ok : WOk Try.prog 103 W103 := by
  intro c l h r e
  unfold W103 at e
  split at e
  · exact ⟨P103, by rw [S103_eq]; exact e⟩
  · cases e
/- (*quietus/levels.Levels).Cells: a round -/
def Q0 : Pl := (.n none .z .z)
def B0 (c : CV) (l : Nat) (v0 _ a1 : AV) (h : AH) : R :=
pBegin h l fun h100 =>
pCall c (.fn 77 [] []) [(.int .i64 (.ofNat 96))] h100 fun v101 h102 =>
pNil a1 fun v103 =>
pFieldA v103 0 fun v104 =>
pLoad1 h102 v104 fun v105 =>
pCall c (.fn 79 [] []) [v105] h102 fun v106 h107 =>
pCall c (.fn 78 [] []) [v101, v106] h107 fun _ h109 =>
pLoad1 h109 v0 fun v110 =>
pCall c (.fn 78 [] []) [v101, v110] h109 fun _ h112 =>
pCall c (.fn 79 [] []) [v101] h112 fun v113 h114 =>
pStore h114 v0 v113 1 fun h115 =>
pEndRound h115 l none
theorem B0_eq (c : CV) (l : Nat) (v0 a0 a1 : AV) (h : AH) : roundK Try.prog NN Q0 c 50 [1, 1, 0, 1, 0] [3] l [v0] [a0, a1] h = B0 c l v0 a0 a1 h := by kernel_rfl
def V0 (c : CV) (l : Nat) (x y : List AV) (h : AH) : R := match x, y with | [v0], [a0, a1] => B0 c l v0 a0 a1 h | _, _ => none
theorem V0_ok : VOk Try.prog 50 [1, 1, 0, 1, 0] [3] V0 := by
  intro c l x y h r e
  unfold V0 at e
  split at e
  · exact ⟨Q0, by rw [B0_eq]; exact e⟩
  · cases e
/- (*quietus/levels.Levels).Get: a round -/
def Q1 : Pl := (.n none .z .z)
def B1 (c : CV) (l : Nat) (v0 v1 v2 _ a1 : AV) (h : AH) : R :=
pBegin h l fun h100 =>
pNil a1 fun v101 =>
pFieldA v101 0 fun v102 =>
pLoad1 h100 v102 fun v103 =>
pLoad1 h100 v2 fun v104 =>
pCall c (.fn 94 [] []) [v103, v104] h100 fun v105 h106 =>
pExtract v105 0 fun v107 =>
pExtract v105 1 fun v108 =>
pCond v108 (
pStore h106 v1 v107 1 fun h109 =>
pStore h109 v0 (.bool true) 1 fun h110 =>
pEndRound h110 l (some .ret)) (
pEndRound h106 l none)
theorem B1_eq (c : CV) (l : Nat) (v0 v1 v2 a0 a1 : AV) (h : AH) : roundK Try.prog NN Q1 c 81 [1, 0, 1, 0] [5, 4, 3] l [v0, v1, v2] [a0, a1] h = B1 c l v0 v1 v2 a0 a1 h := by kernel_rfl
def V1 (c : CV) (l : Nat) (x y : List AV) (h : AH) : R := match x, y with | [v0, v1, v2], [a0, a1] => B1 c l v0 v1 v2 a0 a1 h | _, _ => none
theorem V1_ok : VOk Try.prog 81 [1, 0, 1, 0] [5, 4, 3] V1 := by
  intro c l x y h r e
  unfold V1 at e
  split at e
  · exact ⟨Q1, by rw [B1_eq]; exact e⟩
  · cases e
end
end Go.Proofs.Ythajhlachmgdoaa
