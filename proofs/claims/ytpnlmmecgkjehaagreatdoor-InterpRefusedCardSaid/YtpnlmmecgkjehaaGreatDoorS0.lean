/- Printed by a program of mine: the bodies of the program's functions aa terms of the primitives of the abstract executor, each shown equal by the kernel. -/
import Derived.Test.YtpnlmmecgkjehaaGreatDoorProg
import Derived.Test.YtpnlmmecgkjehaaGreatDoorAe1
import Derived.KernelRfl
namespace Go.Proofs.YtpnlmmecgkjehaaGreatDoor
open Go Go.Ae
set_option maxRecDepth 100000
noncomputable section
/- quietus/quietuslaw21.InterpRuns -/
def P3 : Pl := (.n none .z (.n none .z (.n none .z (.n none .z (.n none .z (.n none .z (.n none .z (.n none .z (.n none (.r [[33, 31, 6, 5, 2], [37, 35, 6, 2], [41, 39, 6, 2], [46, 43, 2], [51, 48, 2], [56, 53, 2], [62, 58, 2], [67, 64]]) .z)))))))))
def S3 (c : CV) (h : AH) : R :=
pCall c (.fn 5 [] []) [(.int .i64 (.ofNat 40)), (.int .i64 (.ofNat 9))] h fun v0 h1 =>
pEq .ptr false v0 .nilp fun v2 =>
pCond v2 (
some ((.bool false), h1)) (
pBuild [(.int .i64 (.ofNat 0)), (.int .i64 (.ofNat 0)), (.int .i64 (.ofNat 0)), (.int .i64 (.ofNat 0)), (.int .u64 (.ofNat 0))] [(0, 1, (.int .i64 (.ofNat 1))), (4, 1, (.int .u64 (.ofNat 6)))] fun v3 =>
pBuild [(.int .i64 (.ofNat 0)), (.int .i64 (.ofNat 0)), (.int .i64 (.ofNat 0)), (.int .i64 (.ofNat 0)), (.int .u64 (.ofNat 0))] [(0, 1, (.int .i64 (.ofNat 8))), (1, 1, (.int .i64 (.ofNat 1)))] fun v4 =>
pBuild [(.int .i64 (.ofNat 0)), (.int .i64 (.ofNat 0)), (.int .i64 (.ofNat 0)), (.int .i64 (.ofNat 0)), (.int .u64 (.ofNat 0))] [(0, 1, (.int .i64 (.ofNat 21))), (1, 1, (.int .i64 (.ofNat 1)))] fun v5 =>
pBuildS h1 28 [(.int .i64 (.ofNat 0)), (.int .i64 (.ofNat 0)), (.int .i64 (.ofNat 0)), (.int .i64 (.ofNat 0)), (.int .u64 (.ofNat 0))] 3 [(0, 5, v3), (5, 5, v4), (10, 5, v5)] fun v6 h7 =>
pBuild [.nils] [(0, 1, v6)] fun v8 =>
pCall c (.fn 6 [] []) [v8, v0, (.int .i64 (.ofNat 9))] h7 fun v9 h10 =>
pEq .ptr false v9 .nilp fun v11 =>
pCond v11 (
some ((.bool false), h10)) (
pCall c (.fn 7 [] []) [v9] h10 fun v12 h13 =>
pCall c (.fn 8 [] []) [v0] h13 fun v14 h15 =>
pCall c (.fn 9 [] []) [v0, (.int .i64 (.ofNat 6)), (.int .u64 (.ofNat 5))] h15 fun _ h17 =>
pCall c (.fn 7 [] []) [v9] h17 fun v18 h19 =>
pCall c (.fn 10 [] []) [v9] h19 fun v20 h21 =>
pInt .eql v12 (.int .i64 (.ofNat 1)) fun v22 =>
joinC (α := AV × AV × AV × AV × AV × Unit → AH → R) (fun s23 h24 =>
pPick s23.2.1 s23.1 (.bool false) fun v26 =>
joinC (α := AV × AV × AV × AV × Unit → AH → R) (fun s27 h28 =>
pPick s27.2.1 s27.1 (.bool false) fun v30 =>
joinC (α := AV × AV × AV × AV × Unit → AH → R) (fun s31 h32 =>
pPick s31.2.1 s31.1 (.bool false) fun v34 =>
joinC (α := AV × AV × AV × Unit → AH → R) (fun s35 h36 =>
pPick s35.2.1 s35.1 (.bool false) fun v38 =>
joinC (α := AV × AV × AV × Unit → AH → R) (fun s39 h40 =>
pPick s39.2.1 s39.1 (.bool false) fun v42 =>
joinC (α := AV × AV × AV × Unit → AH → R) (fun s43 h44 =>
pPick s43.2.1 s43.1 (.bool false) fun v46 =>
joinC (α := AV × AV × AV × Unit → AH → R) (fun s47 h48 =>
pPick s47.2.1 s47.1 (.bool false) fun v50 =>
joinC (α := AV × AV × Unit → AH → R) (fun s51 h52 =>
pPick s51.2.1 s51.1 (.bool false) fun v54 =>
some (v54, h52)) fun j53 =>
pWant v50 true (
pCall c (.fn 15 [] []) [s47.2.2.1] h48 fun v55 h56 =>
pInt .eql v55 (.int .i64 (.ofNat 0)) fun v57 =>
j53 (v57, v50, ()) h56) (
j53 (.undef, v50, ()) h48)) fun j49 =>
pWant v46 true (
pCall c (.fn 14 [] []) [s43.2.2.1] h44 fun v58 h59 =>
pLenS v58 fun v60 =>
pInt .eql v60 (.int .i64 (.ofNat 8)) fun v61 =>
j49 (v61, v46, s43.2.2.1, ()) h59) (
j49 (.undef, v46, s43.2.2.1, ()) h44)) fun j45 =>
pWant v42 true (
pCall c (.fn 13 [] []) [s39.2.2.1] h40 fun v62 h63 =>
pInt .eql v62 (.int .i64 (.ofNat 3)) fun v64 =>
j45 (v64, v42, s39.2.2.1, ()) h63) (
j45 (.undef, v42, s39.2.2.1, ()) h40)) fun j41 =>
pWant v38 true (
pCall c (.fn 12 [] []) [s35.2.2.1] h36 fun v65 h66 =>
pInt .eql v65 (.int .i64 (.ofNat 6)) fun v67 =>
j41 (v67, v38, s35.2.2.1, ()) h66) (
j41 (.undef, v38, s35.2.2.1, ()) h36)) fun j37 =>
pWant v34 true (
pCall c (.fn 11 [] []) [s31.2.2.1] h32 fun v68 h69 =>
pStr .eql v68 (.str [53]) fun v70 =>
j37 (v70, v34, s31.2.2.2.1, ()) h69) (
j37 (.undef, v34, s31.2.2.2.1, ()) h32)) fun j33 =>
pWant v30 true (
pEq .ptr true s27.2.2.1 .nilp fun v71 =>
j33 (v71, v30, s27.2.2.1, s27.2.2.2.1, ()) h28) (
j33 (.undef, v30, s27.2.2.1, s27.2.2.2.1, ()) h28)) fun j29 =>
pWant v26 true (
pInt .eql s23.2.2.2.1 (.int .i64 (.ofNat 2)) fun v72 =>
j29 (v72, v26, s23.2.2.1, s23.2.2.2.2.1, ()) h24) (
j29 (.undef, v26, s23.2.2.1, s23.2.2.2.2.1, ()) h24)) fun j25 =>
pWant v22 true (
pInt .eql v14 (.int .i64 (.ofNat 6)) fun v73 =>
j25 (v73, v22, v20, v18, v9, ()) h21) (
j25 (.undef, v22, v20, v18, v9, ()) h21)))
theorem S3_eq (c : CV) (h : AH) : enterK Tryz.prog NN P3 c 3 [] h = S3 c h := by kernel_rfl
def W3 (c : CV) (l : List AV) (h : AH) : R := match l with | [] => S3 c h | _ => none
theorem W3_ok : WOk Tryz.prog 3 W3 := by
  intro c l h r e
  unfold W3 at e
  split at e
  · exact ⟨P3, by rw [S3_eq]; exact e⟩
  · cases e
/- quietus/quietuslaw21.InterpRefused -/
def P4 : Pl := (.n none .z (.n none .z (.n none .z (.n none .z (.n none .z (.n none .z (.n none .z (.n none .z (.n none .z (.n none .z (.n none (.r [[43, 39, 9, 8], [48, 45, 9, 8], [53, 50, 8], [59, 55]]) .z)))))))))))
def S4 (c : CV) (a0 a1 : AV) (h : AH) : R :=
pCall c (.fn 3 [] []) [] h fun v0 h1 =>
pUn .not v0 fun v2 =>
pCond v2 (
some ((.bool false), h1)) (
pLenS a0 fun v3 =>
pInt .gtr v3 (.int .i64 (.ofNat 100)) fun v4 =>
pCond v4 (
some ((.bool true), h1)) (
pBuild [.nils] [(0, 1, a0)] fun v5 =>
pBox h1 31 (.agg [.nils]) fun v6 h7 =>
pStore h7 v6 v5 1 fun h8 =>
pLoadN h8 v6 1 fun v9 =>
pCall c (.fn 16 [] []) [v9] h8 fun v10 h11 =>
pExtract v10 0 fun _ =>
pExtract v10 1 fun v13 =>
pCall c (.fn 5 [] []) [(.int .i64 (.ofNat 40)), (.int .i64 (.ofNat 9))] h11 fun v14 h15 =>
pEq .ptr false v14 .nilp fun v16 =>
pCond v16 (
some ((.bool false), h15)) (
pLoadN h15 v6 1 fun v17 =>
pCall c (.fn 6 [] []) [v17, v14, a1] h15 fun v18 h19 =>
pEq .ptr false v18 .nilp fun v20 =>
pCond v20 (
some ((.bool false), h19)) (
pInt .eql v13 (.int .i64 (.ofNat 0)) fun v21 =>
pCond v21 (
pCall c (.fn 15 [] []) [v18] h19 fun v22 h23 =>
pInt .eql v22 (.int .i64 (.ofNat 0)) fun v24 =>
some (v24, h23)) (
pCall c (.fn 7 [] []) [v18] h19 fun v25 h26 =>
pInt .eql v25 (.int .i64 (.ofNat 4)) fun v27 =>
joinC (α := AV × AV × AV × AV × Unit → AH → R) (fun s28 h29 =>
pPick s28.2.1 s28.1 (.bool false) fun v31 =>
joinC (α := AV × AV × AV × AV × Unit → AH → R) (fun s32 h33 =>
pPick s32.2.1 s32.1 (.bool false) fun v35 =>
joinC (α := AV × AV × AV × Unit → AH → R) (fun s36 h37 =>
pPick s36.2.1 s36.1 (.bool false) fun v39 =>
joinC (α := AV × AV × Unit → AH → R) (fun s40 h41 =>
pPick s40.2.1 s40.1 (.bool false) fun v43 =>
some (v43, h41)) fun j42 =>
pWant v39 true (
pCall c (.fn 17 [] []) [s36.2.2.1] h37 fun v44 h45 =>
pLenS v44 fun v46 =>
pInt .eql v46 (.int .i64 (.ofNat 0)) fun v47 =>
j42 (v47, v39, ()) h45) (
j42 (.undef, v39, ()) h37)) fun j38 =>
pWant v35 true (
pCall c (.fn 13 [] []) [s32.2.2.1] h33 fun v48 h49 =>
pInt .eql v48 (.int .i64 (.ofNat 0)) fun v50 =>
j38 (v50, v35, s32.2.2.2.1, ()) h49) (
j38 (.undef, v35, s32.2.2.2.1, ()) h33)) fun j34 =>
pWant v31 true (
pCall c (.fn 7 [] []) [s28.2.2.1] h29 fun v51 h52 =>
pInt .eql v51 (.int .i64 (.ofNat 4)) fun v53 =>
j34 (v53, v31, s28.2.2.1, s28.2.2.2.1, ()) h52) (
j34 (.undef, v31, s28.2.2.1, s28.2.2.2.1, ()) h29)) fun j30 =>
pWant v27 true (
pCall c (.fn 15 [] []) [v18] h26 fun v54 h55 =>
pInt .eql v54 v13 fun v56 =>
j30 (v56, v27, v18, v14, ()) h55) (
j30 (.undef, v27, v18, v14, ()) h26))))))
theorem S4_eq (c : CV) (a0 a1 : AV) (h : AH) : enterK Tryz.prog NN P4 c 4 [a0, a1] h = S4 c a0 a1 h := by kernel_rfl
def W4 (c : CV) (l : List AV) (h : AH) : R := match l with | [a0, a1] => S4 c a0 a1 h | _ => none
theorem W4_ok : WOk Tryz.prog 4 W4 := by
  intro c l h r e
  unfold W4 at e
  split at e
  · exact ⟨P4, by rw [S4_eq]; exact e⟩
  · cases e
/- quietus/view.New -/
def P5 : Pl := .z
def S5 (c : CV) (a0 a1 : AV) (h : AH) : R :=
pMM false [a0, (.int .i64 (.ofNat 256))] fun v0 =>
pMM true [(.int .i64 (.ofNat 32)), v0] fun v1 =>
pMake h 62 [(.int .u64 (.ofNat 0)), (.bool false)] v1 v1 fun v2 h3 =>
pCall c (.fn 18 [] []) [a1] h3 fun v4 h5 =>
pBuild [.nils, .nils, .nilp, (.int .i64 (.ofNat 0))] [(0, 1, v2), (2, 1, v4)] fun v6 =>
pBox h5 52 v6 fun v7 h8 =>
some (v7, h8)
theorem S5_eq (c : CV) (a0 a1 : AV) (h : AH) : enterK Tryz.prog NN P5 c 5 [a0, a1] h = S5 c a0 a1 h := by kernel_rfl
def W5 (c : CV) (l : List AV) (h : AH) : R := match l with | [a0, a1] => S5 c a0 a1 h | _ => none
theorem W5_ok : WOk Tryz.prog 5 W5 := by
  intro c l h r e
  unfold W5 at e
  split at e
  · exact ⟨P5, by rw [S5_eq]; exact e⟩
  · cases e
/- quietus/interp.New -/
def P6 : Pl := (.n none .z (.n none .z (.n none .z (.n none (.r [[6]]) .z))))
def S6 (c : CV) (a0 a1 a2 : AV) (h : AH) : R :=
pBox h 31 a0 fun v0 h1 =>
pFieldA v0 0 fun v2 =>
pLoad1 h1 v2 fun v3 =>
pAppend h1 28 5 .nils v3 fun v4 h5 =>
pFieldA v0 0 fun v6 =>
pStore h5 v6 v4 1 fun h7 =>
pLoadN h7 v0 1 fun v8 =>
pCall c (.fn 16 [] []) [v8] h7 fun v9 h10 =>
pExtract v9 0 fun _ =>
pExtract v9 1 fun v12 =>
joinC (α := AV × Unit → AH → R) (fun s13 h14 =>
some (s13.1, h14)) fun j15 =>
pLoadN h10 v0 1 fun v16 =>
pLoadN h10 v0 1 fun v17 =>
pCall c (.fn 19 [] []) [v17] h10 fun v18 h19 =>
pCall c (.fn 20 [] []) [] h19 fun v20 h21 =>
pMM false [a2, (.int .i64 (.ofNat 400))] fun v22 =>
pMM true [(.int .i64 (.ofNat 0)), v22] fun v23 =>
pBuild [.nils, .nilp, .nils, (.int .i64 (.ofNat 0)), (.int .i64 (.ofNat 0)), (.int .i64 (.ofNat 0)), (.int .u64 (.ofNat 0)), (.int .u64 (.ofNat 0)), (.int .u64 (.ofNat 0)), (.int .u64 (.ofNat 0)), (.int .u64 (.ofNat 0)), (.int .u64 (.ofNat 0)), (.int .u64 (.ofNat 0)), (.int .u64 (.ofNat 0)), .nilp, (.int .i64 (.ofNat 0)), (.int .i64 (.ofNat 0)), (.int .i64 (.ofNat 0)), .nils] [(0, 1, v16), (1, 1, a1), (2, 1, v18), (3, 1, v12), (14, 1, v20), (17, 1, v23)] fun v24 =>
pBox h21 57 v24 fun v25 h26 =>
pChk v0 (some 1) v16 h19 h21 h10.nx <|
pChk v0 (some 1) v16 h10 h19 h10.nx <|
j15 (v25, ()) h26
theorem S6_eq (c : CV) (a0 a1 a2 : AV) (h : AH) : enterK Tryz.prog NN P6 c 6 [a0, a1, a2] h = S6 c a0 a1 a2 h := by kernel_rfl
def W6 (c : CV) (l : List AV) (h : AH) : R := match l with | [a0, a1, a2] => S6 c a0 a1 a2 h | _ => none
theorem W6_ok : WOk Tryz.prog 6 W6 := by
  intro c l h r e
  unfold W6 at e
  split at e
  · exact ⟨P6, by rw [S6_eq]; exact e⟩
  · cases e
/- (*quietus/interp.Interp).Run -/
def P7 : Pl := (.n none .z (.n none (.n none (.n (some [0]) (.n none .z (.n (some [0]) (.n none .z (.n none .z (.n none .z (.n none .z (.n (some [0]) .z .z))))) .z)) .z) .z) .z))
def S7 (c : CV) (a0 : AV) (h : AH) : R :=
loopC (σ := AV × Unit) NN (fun i3 s0 h1 d2 =>
pNil s0.1 fun v4 =>
pFieldA v4 5 fun v5 =>
pLoad1 h1 v5 fun v6 =>
pInt .eql v6 (.int .i64 (.ofNat 0)) fun v7 =>
pCond v7 (
joinC (α := AV × Unit → AH → List Nat → R) (fun s8 h9 d10 =>
i3 (s8.1, ()) h9 d10) fun j11 =>
pNil s0.1 fun v12 =>
pFieldA v12 3 fun v13 =>
pLoad1 h1 v13 fun v14 =>
pInt .neq v14 (.int .i64 (.ofNat 0)) fun v15 =>
pCond v15 (
pNil s0.1 fun v16 =>
pFieldA v16 3 fun v17 =>
pLoad1 h1 v17 fun v18 =>
pCall c (.fn 21 [] []) [s0.1, v18] h1 fun _ h20 =>
j11 (s0.1, ()) h20 d2) (
pNil s0.1 fun v21 =>
pFieldA v21 15 fun v22 =>
pLoad1 h1 v22 fun v23 =>
pNil s0.1 fun v24 =>
pFieldA v24 0 fun v25 =>
pFieldA v25 0 fun v26 =>
pLoad1 h1 v26 fun v27 =>
pLenS v27 fun v28 =>
pInt .eql v23 v28 fun v29 =>
pCond v29 (
pNil s0.1 fun v30 =>
pFieldA v30 5 fun v31 =>
pStore h1 v31 (.int .i64 (.ofNat 2)) 1 fun h32 =>
j11 (s0.1, ()) h32 d2) (
pNil s0.1 fun v33 =>
pFieldA v33 17 fun v34 =>
pLoad1 h1 v34 fun v35 =>
pInt .eql v35 (.int .i64 (.ofNat 0)) fun v36 =>
pCond v36 (
pCall c (.fn 21 [] []) [s0.1, (.int .i64 (.ofNat 6))] h1 fun _ h38 =>
j11 (s0.1, ()) h38 d2) (
pNil s0.1 fun v39 =>
pFieldA v39 15 fun v40 =>
pLoad1 h1 v40 fun v41 =>
pInt .add v41 (.int .i64 (.ofNat 1)) fun v42 =>
pNil s0.1 fun v43 =>
pFieldA v43 16 fun v44 =>
pStore h1 v44 v42 1 fun h45 =>
pNil s0.1 fun v46 =>
pFieldA v46 0 fun v47 =>
pFieldA v47 0 fun v48 =>
pLoad1 h45 v48 fun v49 =>
pNil s0.1 fun v50 =>
pFieldA v50 15 fun v51 =>
pLoad1 h45 v51 fun v52 =>
pIdxS v49 v52 5 fun v53 =>
pLoadN h45 v53 5 fun v54 =>
pCall c (.fn 22 [] []) [s0.1, v54] h45 fun v55 h56 =>
joinC (α := AV × Unit → AH → List Nat → R) (fun s57 h58 d59 =>
j11 (s57.1, ()) h58 d59) fun j60 =>
pInt .eql v55 (.int .i64 (.ofNat 0)) fun v61 =>
pCond v61 (
pNil s0.1 fun v62 =>
pFieldA v62 16 fun v63 =>
pLoad1 h56 v63 fun v64 =>
pNil s0.1 fun v65 =>
pFieldA v65 15 fun v66 =>
pStore h56 v66 v64 1 fun h67 =>
pNil s0.1 fun v68 =>
pFieldA v68 17 fun v69 =>
pLoad1 h67 v69 fun v70 =>
pInt .sub v70 (.int .i64 (.ofNat 1)) fun v71 =>
pNil s0.1 fun v72 =>
pFieldA v72 17 fun v73 =>
pStore h67 v73 v71 1 fun h74 =>
j60 (s0.1, ()) h74 d2) (
pInt .eql v55 (.int .i64 (.ofNat 11)) fun v75 =>
pCond v75 (
pLeave d2 h56 fun h76 =>
some ((.int .i64 (.ofNat 1)), h76)) (
pCall c (.fn 21 [] []) [s0.1, v55] h56 fun _ h78 =>
j60 (s0.1, ()) h78 d2)))))) (
pNil s0.1 fun v79 =>
pFieldA v79 5 fun v80 =>
pLoad1 h1 v80 fun v81 =>
pLeave d2 h1 fun h82 =>
some (v81, h82))) (a0, ()) h []
theorem S7_eq (c : CV) (a0 : AV) (h : AH) : enterK Tryz.prog NN P7 c 7 [a0] h = S7 c a0 h := by kernel_rfl
def W7 (c : CV) (l : List AV) (h : AH) : R := match l with | [a0] => S7 c a0 h | _ => none
theorem W7_ok : WOk Tryz.prog 7 W7 := by
  intro c l h r e
  unfold W7 at e
  split at e
  · exact ⟨P7, by rw [S7_eq]; exact e⟩
  · cases e
/- (*quietus/view.View).Need -/
def P8 : Pl := .z
def S8 (_ : CV) (a0 : AV) (h : AH) : R :=
pNil a0 fun v0 =>
pFieldA v0 3 fun v1 =>
pLoad1 h v1 fun v2 =>
some (v2, h)
theorem S8_eq (c : CV) (a0 : AV) (h : AH) : enterK Tryz.prog NN P8 c 8 [a0] h = S8 c a0 h := by kernel_rfl
def W8 (c : CV) (l : List AV) (h : AH) : R := match l with | [a0] => S8 c a0 h | _ => none
theorem W8_ok : WOk Tryz.prog 8 W8 := by
  intro c l h r e
  unfold W8 at e
  split at e
  · exact ⟨P8, by rw [S8_eq]; exact e⟩
  · cases e
/- (*quietus/view.View).Know -/
def P9 : Pl := .z
def S9 (c : CV) (a0 a1 a2 : AV) (h : AH) : R :=
pCall c (.fn 23 [] []) [a0, a1] h fun v0 h1 =>
pUn .not v0 fun v2 =>
pCond v2 (
some ((.int .i64 (.ofNat 2)), h1)) (
pNil a0 fun v3 =>
pFieldA v3 0 fun v4 =>
pLoad1 h1 v4 fun v5 =>
pIdxS v5 a1 2 fun v6 =>
pLoadN h1 v6 2 fun v7 =>
pBox h1 62 (.agg [(.int .u64 (.ofNat 0)), (.bool false)]) fun v8 h9 =>
pStore h9 v8 v7 2 fun h10 =>
pFieldA v8 1 fun v11 =>
pLoad1 h10 v11 fun v12 =>
pCond v12 (
pFieldA v8 0 fun v13 =>
pLoad1 h10 v13 fun v14 =>
pInt .neq v14 a2 fun v15 =>
pCond v15 (
some ((.int .i64 (.ofNat 14)), h10)) (
some ((.int .i64 (.ofNat 0)), h10))) (
pNil a0 fun v16 =>
pFieldA v16 0 fun v17 =>
pLoad1 h10 v17 fun v18 =>
pBuild [(.int .u64 (.ofNat 0)), (.bool false)] [(0, 1, a2), (1, 1, (.bool true))] fun v19 =>
pIdxS v18 a1 2 fun v20 =>
pStore h10 v20 v19 2 fun h21 =>
pNil a0 fun v22 =>
pFieldA v22 1 fun v23 =>
pLoad1 h21 v23 fun v24 =>
pBuildS h21 3 [(.int .i64 (.ofNat 0))] 1 [(0, 1, a1)] fun v25 h26 =>
pAppend h26 3 1 v24 v25 fun v27 h28 =>
pNil a0 fun v29 =>
pFieldA v29 1 fun v30 =>
pStore h28 v30 v27 1 fun h31 =>
some ((.int .i64 (.ofNat 0)), h31)))
theorem S9_eq (c : CV) (a0 a1 a2 : AV) (h : AH) : enterK Tryz.prog NN P9 c 9 [a0, a1, a2] h = S9 c a0 a1 a2 h := by kernel_rfl
def W9 (c : CV) (l : List AV) (h : AH) : R := match l with | [a0, a1, a2] => S9 c a0 a1 a2 h | _ => none
theorem W9_ok : WOk Tryz.prog 9 W9 := by
  intro c l h r e
  unfold W9 at e
  split at e
  · exact ⟨P9, by rw [S9_eq]; exact e⟩
  · cases e
/- (*quietus/interp.Interp).Slate -/
def P10 : Pl := .z
def S10 (c : CV) (a0 : AV) (h : AH) : R :=
pNil a0 fun v0 =>
pFieldA v0 14 fun v1 =>
pLoad1 h v1 fun v2 =>
pCall c (.fn 24 [] []) [v2] h fun v3 h4 =>
some (v3, h4)
theorem S10_eq (c : CV) (a0 : AV) (h : AH) : enterK Tryz.prog NN P10 c 10 [a0] h = S10 c a0 h := by kernel_rfl
def W10 (c : CV) (l : List AV) (h : AH) : R := match l with | [a0] => S10 c a0 h | _ => none
theorem W10_ok : WOk Tryz.prog 10 W10 := by
  intro c l h r e
  unfold W10 at e
  split at e
  · exact ⟨P10, by rw [S10_eq]; exact e⟩
  · cases e
/- (*quietus/slate.Slate).Text -/
def P11 : Pl := (.n none .z (.n none .z (.n none (.n none .z (.n none (.n (some [17, 16, 15, 3]) .z .z) .z)) .z)))
def S11 (c : CV) (a0 : AV) (h : AH) : R :=
pNil a0 fun v0 =>
pFieldA v0 0 fun v1 =>
pLoad1 h v1 fun v2 =>
pLenS v2 fun v3 =>
pMake h 9 [(.str [])] v3 v3 fun v4 h5 =>
pNil a0 fun v6 =>
pFieldA v6 0 fun v7 =>
pLoad1 h5 v7 fun v8 =>
pLenS v8 fun v9 =>
loopC (σ := AV × AV × AV × AV × Unit) NN (fun i13 s10 h11 d12 =>
pInt .lss s10.1 s10.2.1 fun v14 =>
pCond v14 (
pIdxS s10.2.2.1 s10.1 1 fun v15 =>
pLoad1 h11 v15 fun v16 =>
pCall c (.fn 25 [] []) [v16] h11 fun v17 h18 =>
pIdxS s10.2.2.2.1 s10.1 1 fun v19 =>
pStore h18 v19 v17 1 fun h20 =>
pInt .add s10.1 (.int .i64 (.ofNat 1)) fun v21 =>
i13 (v21, s10.2.1, s10.2.2.1, s10.2.2.2.1, ()) h20 d12) (
pCall c (.fn 26 [] []) [s10.2.2.2.1, (.str [32])] h11 fun v22 h23 =>
pLeave d12 h23 fun h24 =>
some (v22, h24))) ((.int .i64 (.ofNat 0)), v9, v8, v4, ()) h5 []
theorem S11_eq (c : CV) (a0 : AV) (h : AH) : enterK Tryz.prog NN P11 c 11 [a0] h = S11 c a0 h := by kernel_rfl
def W11 (c : CV) (l : List AV) (h : AH) : R := match l with | [a0] => S11 c a0 h | _ => none
theorem W11_ok : WOk Tryz.prog 11 W11 := by
  intro c l h r e
  unfold W11 at e
  split at e
  · exact ⟨P11, by rw [S11_eq]; exact e⟩
  · cases e
/- (*quietus/interp.Interp).Left -/
def P12 : Pl := .z
def S12 (_ : CV) (a0 : AV) (h : AH) : R :=
pNil a0 fun v0 =>
pFieldA v0 17 fun v1 =>
pLoad1 h v1 fun v2 =>
some (v2, h)
theorem S12_eq (c : CV) (a0 : AV) (h : AH) : enterK Tryz.prog NN P12 c 12 [a0] h = S12 c a0 h := by kernel_rfl
def W12 (c : CV) (l : List AV) (h : AH) : R := match l with | [a0] => S12 c a0 h | _ => none
theorem W12_ok : WOk Tryz.prog 12 W12 := by
  intro c l h r e
  unfold W12 at e
  split at e
  · exact ⟨P12, by rw [S12_eq]; exact e⟩
  · cases e
/- (*quietus/interp.Interp).Place -/
def P13 : Pl := .z
def S13 (_ : CV) (a0 : AV) (h : AH) : R :=
pNil a0 fun v0 =>
pFieldA v0 15 fun v1 =>
pLoad1 h v1 fun v2 =>
some (v2, h)
theorem S13_eq (c : CV) (a0 : AV) (h : AH) : enterK Tryz.prog NN P13 c 13 [a0] h = S13 c a0 h := by kernel_rfl
def W13 (c : CV) (l : List AV) (h : AH) : R := match l with | [a0] => S13 c a0 h | _ => none
theorem W13_ok : WOk Tryz.prog 13 W13 := by
  intro c l h r e
  unfold W13 at e
  split at e
  · exact ⟨P13, by rw [S13_eq]; exact e⟩
  · cases e
/- (*quietus/interp.Interp).Regs -/
def P14 : Pl := .z
def S14 (_ : CV) (a0 : AV) (h : AH) : R :=
pNil a0 fun v0 =>
pFieldA v0 6 fun v1 =>
pSliceP 8 1 v1 none none fun v2 =>
pAppend h 26 1 .nils v2 fun v3 h4 =>
some (v3, h4)
theorem S14_eq (c : CV) (a0 : AV) (h : AH) : enterK Tryz.prog NN P14 c 14 [a0] h = S14 c a0 h := by kernel_rfl
def W14 (c : CV) (l : List AV) (h : AH) : R := match l with | [a0] => S14 c a0 h | _ => none
theorem W14_ok : WOk Tryz.prog 14 W14 := by
  intro c l h r e
  unfold W14 at e
  split at e
  · exact ⟨P14, by rw [S14_eq]; exact e⟩
  · cases e
/- (*quietus/interp.Interp).Err -/
def P15 : Pl := .z
def S15 (_ : CV) (a0 : AV) (h : AH) : R :=
pNil a0 fun v0 =>
pFieldA v0 4 fun v1 =>
pLoad1 h v1 fun v2 =>
some (v2, h)
theorem S15_eq (c : CV) (a0 : AV) (h : AH) : enterK Tryz.prog NN P15 c 15 [a0] h = S15 c a0 h := by kernel_rfl
def W15 (c : CV) (l : List AV) (h : AH) : R := match l with | [a0] => S15 c a0 h | _ => none
theorem W15_ok : WOk Tryz.prog 15 W15 := by
  intro c l h r e
  unfold W15 at e
  split at e
  · exact ⟨P15, by rw [S15_eq]; exact e⟩
  · cases e
/- quietus/check.Run -/
def P16 : Pl := (.n none .z (.n none (.n none (.r [[16, 12, 1]]) .z) (.n none .z (.n none (.n none .z (.n none (.n (some [21, 20, 19, 4, 1]) .z .z) .z)) (.n none .z (.n none (.r [[3, 2]]) .z))))))
def S16 (c : CV) (a0 : AV) (h : AH) : R :=
pBox h 31 a0 fun v0 h1 =>
pFieldA v0 0 fun v2 =>
pLoad1 h1 v2 fun v3 =>
pLenS v3 fun v4 =>
pInt .eql v4 (.int .i64 (.ofNat 0)) fun v5 =>
joinC (α := AV × AV × AV × Unit → AH → R) (fun s6 h7 =>
pPick s6.2.1 (.bool true) s6.1 fun v9 =>
pCond v9 (
some ((.tup [(.int .i64 (.ofNat 0)), (.int .i64 (.ofNat 4))]), h7)) (
pFieldA s6.2.2.1 0 fun v10 =>
pLoad1 h7 v10 fun v11 =>
pLenS v11 fun v12 =>
loopC (σ := AV × AV × AV × AV × AV × Unit) NN (fun i16 s13 h14 d15 =>
pInt .lss s13.1 s13.2.1 fun v17 =>
pCond v17 (
pIdxS s13.2.2.1 s13.1 5 fun v18 =>
pLoadN h14 v18 5 fun v19 =>
pBox h14 28 (.agg [(.int .i64 (.ofNat 0)), (.int .i64 (.ofNat 0)), (.int .i64 (.ofNat 0)), (.int .i64 (.ofNat 0)), (.int .u64 (.ofNat 0))]) fun v20 h21 =>
pStore h21 v20 v19 5 fun h22 =>
pLoadN h22 s13.2.2.2.2.1 1 fun v23 =>
pLoadN h22 v20 5 fun v24 =>
pCall c (.fn 27 [] []) [v23, s13.2.2.2.1, v24] h22 fun v25 h26 =>
pInt .neq v25 (.int .i64 (.ofNat 0)) fun v27 =>
pCond v27 (
pLeave d15 h26 fun h28 =>
some ((.tup [s13.1, v25]), h28)) (
pFieldA v20 0 fun v29 =>
pLoad1 h26 v29 fun v30 =>
pCall c (.fn 28 [] []) [s13.2.2.2.1, s13.1, v30] h26 fun v31 h32 =>
pInt .add s13.1 (.int .i64 (.ofNat 1)) fun v33 =>
i16 (v33, s13.2.1, s13.2.2.1, v31, s13.2.2.2.2.1, ()) h32 d15)) (
pLenS s13.2.2.2.1 fun v34 =>
pInt .gtr v34 (.int .i64 (.ofNat 0)) fun v35 =>
pCond v35 (
pCall c (.fn 29 [] []) [s13.2.2.2.1] h14 fun v36 h37 =>
pLeave d15 h37 fun h38 =>
some ((.tup [v36, (.int .i64 (.ofNat 12))]), h38)) (
joinC (α := AV × AV × Unit → AH → R) (fun s39 h40 =>
pLeave d15 h40 fun h42 =>
some ((.tup [s39.2.1, s39.1]), h42)) fun j41 =>
pLoadN h14 s13.2.2.2.2.1 1 fun v43 =>
pLoadN h14 s13.2.2.2.2.1 1 fun v44 =>
pCall c (.fn 31 [] []) [v44] h14 fun v45 h46 =>
pCall c (.fn 30 [] []) [v43, v45] h46 fun v47 h48 =>
pExtract v47 0 fun v49 =>
pExtract v47 1 fun v50 =>
pChk s13.2.2.2.2.1 (some 1) v43 h14 h46 h14.nx <|
j41 (v50, v49, ()) h48))) ((.int .i64 (.ofNat 0)), v12, v11, .nils, s6.2.2.1, ()) h7 [])) fun j8 =>
pWant v5 false (
pFieldA v0 0 fun v51 =>
pLoad1 h1 v51 fun v52 =>
pLenS v52 fun v53 =>
pInt .gtr v53 (.int .i64 (.ofNat 40)) fun v54 =>
j8 (v54, v5, v0, ()) h1) (
j8 (.undef, v5, v0, ()) h1)
theorem S16_eq (c : CV) (a0 : AV) (h : AH) : enterK Tryz.prog NN P16 c 16 [a0] h = S16 c a0 h := by kernel_rfl
def W16 (c : CV) (l : List AV) (h : AH) : R := match l with | [a0] => S16 c a0 h | _ => none
theorem W16_ok : WOk Tryz.prog 16 W16 := by
  intro c l h r e
  unfold W16 at e
  split at e
  · exact ⟨P16, by rw [S16_eq]; exact e⟩
  · cases e
/- (*quietus/view.View).Known -/
def P17 : Pl := (.n none .z (.n none .z (.n none (.n none .z (.n none (.n (some [17, 16, 15, 3, 0]) .z .z) .z)) .z)))
def S17 (_ : CV) (a0 : AV) (h : AH) : R :=
pNil a0 fun v0 =>
pFieldA v0 1 fun v1 =>
pLoad1 h v1 fun v2 =>
pLenS v2 fun v3 =>
pMake h 74 [(.int .i64 (.ofNat 0)), (.int .u64 (.ofNat 0))] (.int .i64 (.ofNat 0)) v3 fun v4 h5 =>
pNil a0 fun v6 =>
pFieldA v6 1 fun v7 =>
pLoad1 h5 v7 fun v8 =>
pLenS v8 fun v9 =>
loopC (σ := AV × AV × AV × AV × AV × Unit) NN (fun i13 s10 h11 d12 =>
pInt .lss s10.1 s10.2.1 fun v14 =>
pCond v14 (
pIdxS s10.2.2.1 s10.1 1 fun v15 =>
pLoad1 h11 v15 fun v16 =>
pNil s10.2.2.2.2.1 fun v17 =>
pFieldA v17 0 fun v18 =>
pLoad1 h11 v18 fun v19 =>
pIdxS v19 v16 2 fun v20 =>
pFieldA v20 0 fun v21 =>
pLoad1 h11 v21 fun v22 =>
pBuild [(.int .i64 (.ofNat 0)), (.int .u64 (.ofNat 0))] [(0, 1, v16), (1, 1, v22)] fun v23 =>
pBuildS h11 74 [(.int .i64 (.ofNat 0)), (.int .u64 (.ofNat 0))] 1 [(0, 2, v23)] fun v24 h25 =>
pAppend h25 74 2 s10.2.2.2.1 v24 fun v26 h27 =>
pInt .add s10.1 (.int .i64 (.ofNat 1)) fun v28 =>
i13 (v28, s10.2.1, s10.2.2.1, v26, s10.2.2.2.2.1, ()) h27 d12) (
pLeave d12 h11 fun h29 =>
some (s10.2.2.2.1, h29))) ((.int .i64 (.ofNat 0)), v9, v8, v4, a0, ()) h5 []
theorem S17_eq (c : CV) (a0 : AV) (h : AH) : enterK Tryz.prog NN P17 c 17 [a0] h = S17 c a0 h := by kernel_rfl
def W17 (c : CV) (l : List AV) (h : AH) : R := match l with | [a0] => S17 c a0 h | _ => none
theorem W17_ok : WOk Tryz.prog 17 W17 := by
  intro c l h r e
  unfold W17 at e
  split at e
  · exact ⟨P17, by rw [S17_eq]; exact e⟩
  · cases e
/- quietus/levels.New -/
def P18 : Pl := .z
def S18 (c : CV) (a0 : AV) (h : AH) : R :=
pMM false [a0, (.int .i64 (.ofNat 96))] fun v0 =>
pMM true [(.int .i64 (.ofNat 0)), v0] fun v1 =>
pCall c (.fn 32 [] []) [] h fun v2 h3 =>
pBuildS h3 75 [.nilp] 1 [(0, 1, v2)] fun v4 h5 =>
pBuild [(.int .i64 (.ofNat 0)), .nils] [(0, 1, v1), (1, 1, v4)] fun v6 =>
pBox h5 79 v6 fun v7 h8 =>
some (v7, h8)
theorem S18_eq (c : CV) (a0 : AV) (h : AH) : enterK Tryz.prog NN P18 c 18 [a0] h = S18 c a0 h := by kernel_rfl
def W18 (c : CV) (l : List AV) (h : AH) : R := match l with | [a0] => S18 c a0 h | _ => none
theorem W18_ok : WOk Tryz.prog 18 W18 := by
  intro c l h r e
  unfold W18 at e
  split at e
  · exact ⟨P18, by rw [S18_eq]; exact e⟩
  · cases e
/- quietus/check.Match -/
def P19 : Pl := (.n none .z (.n none .z (.n none .z (.n none .z (.n none (.n none .z (.n none (.n (some [27, 26, 6, 5, 1]) .z .z) .z)) (.n none (.n none .z (.n none (.n (some [37, 36, 35, 6, 5, 1]) (.n none .z (.n none .z (.n none (.n (some [37, 36, 35, 6, 5, 1]) .z .z) .z))) .z) .z)) (.n none (.n none .z (.n none (.n (some [57, 56, 55, 6, 5]) (.n none .z (.n none .z (.n none (.n (some [57, 56, 55, 6, 5]) .z .z) .z))) .z) .z)) .z)))))))
def S19 (c : CV) (a0 : AV) (h : AH) : R :=
pBox h 31 a0 fun v0 h1 =>
pLoadN h1 v0 1 fun v2 =>
pCall c (.fn 16 [] []) [v2] h1 fun v3 h4 =>
pExtract v3 0 fun _ =>
pExtract v3 1 fun v6 =>
pInt .neq v6 (.int .i64 (.ofNat 0)) fun v7 =>
pCond v7 (
some (.nils, h4)) (
pLoadN h4 v0 1 fun v8 =>
pCall c (.fn 31 [] []) [v8] h4 fun v9 h10 =>
pFieldA v0 0 fun v11 =>
pLoad1 h10 v11 fun v12 =>
pLenS v12 fun v13 =>
pMake h10 3 [(.int .i64 (.ofNat 0))] v13 v13 fun v14 h15 =>
pLenS v14 fun v16 =>
loopC (σ := AV × AV × AV × AV × AV × Unit) NN (fun i20 s17 h18 d19 =>
pInt .lss s17.1 s17.2.1 fun v21 =>
pCond v21 (
pIdxS s17.2.2.1 s17.1 1 fun v22 =>
pStore h18 v22 (.int .i64 (.negSucc 0)) 1 fun h23 =>
pInt .add s17.1 (.int .i64 (.ofNat 1)) fun v24 =>
i20 (v24, s17.2.1, s17.2.2.1, s17.2.2.2.1, s17.2.2.2.2.1, ()) h23 d19) (
pFieldA s17.2.2.2.2.1 0 fun v25 =>
pLoad1 h18 v25 fun v26 =>
pLenS v26 fun v27 =>
loopC (σ := AV × AV × AV × AV × AV × AV × Unit) NN (fun i31 s28 h29 d30 =>
pInt .lss s28.1 s28.2.1 fun v32 =>
pCond v32 (
joinC (α := AV × AV × AV × AV × AV × AV × Unit → AH → List Nat → R) (fun s33 h34 d35 =>
pInt .add s33.1 (.int .i64 (.ofNat 1)) fun v37 =>
i31 (v37, s33.2.1, s33.2.2.1, s33.2.2.2.1, s33.2.2.2.2.1, s33.2.2.2.2.2.1, ()) h34 d35) fun j36 =>
pIdxS s28.2.2.1 s28.1 5 fun v38 =>
pLoadN h29 v38 5 fun v39 =>
pBox h29 28 (.agg [(.int .i64 (.ofNat 0)), (.int .i64 (.ofNat 0)), (.int .i64 (.ofNat 0)), (.int .i64 (.ofNat 0)), (.int .u64 (.ofNat 0))]) fun v40 h41 =>
pStore h41 v40 v39 5 fun h42 =>
pFieldA v40 0 fun v43 =>
pLoad1 h42 v43 fun v44 =>
pCall c (.fn 33 [] []) [v44] h42 fun v45 h46 =>
pInt .gtr v45 (.int .i64 (.ofNat 0)) fun v47 =>
pCond v47 (
pIdxS s28.2.2.2.2.1 s28.1 1 fun v48 =>
pLoad1 h46 v48 fun v49 =>
pIdxS s28.2.2.2.1 v49 1 fun v50 =>
pStore h46 v50 s28.1 1 fun h51 =>
j36 (s28.1, s28.2.1, s28.2.2.1, s28.2.2.2.1, s28.2.2.2.2.1, s28.2.2.2.2.2.1, ()) h51 d30) (
j36 (s28.1, s28.2.1, s28.2.2.1, s28.2.2.2.1, s28.2.2.2.2.1, s28.2.2.2.2.2.1, ()) h46 d30)) (
pFieldA s28.2.2.2.2.2.1 0 fun v52 =>
pLoad1 h29 v52 fun v53 =>
pLenS v53 fun v54 =>
loopC (σ := AV × AV × AV × AV × AV × Unit) NN (fun i58 s55 h56 d57 =>
pInt .lss s55.1 s55.2.1 fun v59 =>
pCond v59 (
joinC (α := AV × AV × AV × AV × AV × Unit → AH → List Nat → R) (fun s60 h61 d62 =>
pInt .add s60.1 (.int .i64 (.ofNat 1)) fun v64 =>
i58 (v64, s60.2.1, s60.2.2.1, s60.2.2.2.1, s60.2.2.2.2.1, ()) h61 d62) fun j63 =>
pIdxS s55.2.2.1 s55.1 5 fun v65 =>
pLoadN h56 v65 5 fun v66 =>
pBox h56 28 (.agg [(.int .i64 (.ofNat 0)), (.int .i64 (.ofNat 0)), (.int .i64 (.ofNat 0)), (.int .i64 (.ofNat 0)), (.int .u64 (.ofNat 0))]) fun v67 h68 =>
pStore h68 v67 v66 5 fun h69 =>
pFieldA v67 0 fun v70 =>
pLoad1 h69 v70 fun v71 =>
pInt .eql v71 (.int .i64 (.ofNat 16)) fun v72 =>
pCond v72 (
pIdxS s55.2.2.2.2.1 s55.1 1 fun v73 =>
pLoad1 h69 v73 fun v74 =>
pIdxS s55.2.2.2.1 v74 1 fun v75 =>
pLoad1 h69 v75 fun v76 =>
pIdxS s55.2.2.2.1 s55.1 1 fun v77 =>
pStore h69 v77 v76 1 fun h78 =>
j63 (s55.1, s55.2.1, s55.2.2.1, s55.2.2.2.1, s55.2.2.2.2.1, ()) h78 d57) (
j63 (s55.1, s55.2.1, s55.2.2.1, s55.2.2.2.1, s55.2.2.2.2.1, ()) h69 d57)) (
pLeave d57 h56 fun h79 =>
some (s55.2.2.2.1, h79))) ((.int .i64 (.ofNat 0)), v54, v53, s28.2.2.2.1, s28.2.2.2.2.1, ()) h29 d30)) ((.int .i64 (.ofNat 0)), v27, v26, s17.2.2.1, s17.2.2.2.1, s17.2.2.2.2.1, ()) h18 d19)) ((.int .i64 (.ofNat 0)), v16, v14, v9, v0, ()) h15 [])
theorem S19_eq (c : CV) (a0 : AV) (h : AH) : enterK Tryz.prog NN P19 c 19 [a0] h = S19 c a0 h := by kernel_rfl
def W19 (c : CV) (l : List AV) (h : AH) : R := match l with | [a0] => S19 c a0 h | _ => none
theorem W19_ok : WOk Tryz.prog 19 W19 := by
  intro c l h r e
  unfold W19 at e
  split at e
  · exact ⟨P19, by rw [S19_eq]; exact e⟩
  · cases e
/- quietus/slate.New -/
def P20 : Pl := .z
def S20 (_ : CV) (h : AH) : R :=
pBuild [.nils] [] fun v0 =>
pBox h 66 v0 fun v1 h2 =>
some (v1, h2)
theorem S20_eq (c : CV) (h : AH) : enterK Tryz.prog NN P20 c 20 [] h = S20 c h := by kernel_rfl
def W20 (c : CV) (l : List AV) (h : AH) : R := match l with | [] => S20 c h | _ => none
theorem W20_ok : WOk Tryz.prog 20 W20 := by
  intro c l h r e
  unfold W20 at e
  split at e
  · exact ⟨P20, by rw [S20_eq]; exact e⟩
  · cases e
/- (*quietus/interp.Interp).fail -/
def P21 : Pl := .z
def S21 (_ : CV) (a0 a1 : AV) (h : AH) : R :=
pNil a0 fun v0 =>
pFieldA v0 5 fun v1 =>
pStore h v1 (.int .i64 (.ofNat 4)) 1 fun h2 =>
pNil a0 fun v3 =>
pFieldA v3 4 fun v4 =>
pStore h2 v4 a1 1 fun h5 =>
some ((.tup []), h5)
theorem S21_eq (c : CV) (a0 a1 : AV) (h : AH) : enterK Tryz.prog NN P21 c 21 [a0, a1] h = S21 c a0 a1 h := by kernel_rfl
def W21 (c : CV) (l : List AV) (h : AH) : R := match l with | [a0, a1] => S21 c a0 a1 h | _ => none
theorem W21_ok : WOk Tryz.prog 21 W21 := by
  intro c l h r e
  unfold W21 at e
  split at e
  · exact ⟨P21, by rw [S21_eq]; exact e⟩
  · cases e
/- (*quietus/interp.Interp).do -/
def P22 : Pl := (.n none .z (.n none .z (.n none (.n none .z (.n (some []) (.n none .z (.n none .z (.n none .z (.n none .z (.n none .z (.n none .z (.n none .z (.n none .z (.n none .z (.n none .z (.n none .z (.n none .z (.n none .z (.n none .z (.n none .z (.n none .z (.n none .z (.n none .z (.n none .z (.n none .z (.n none .z (.n none .z (.n none .z (.n none .z (.n (some [120, 6, 5, 3, 0]) .z .z))))))))))))))))))))))))) .z)) .z)))
def S22 (c : CV) (a0 a1 : AV) (h : AH) : R :=
pBox h 28 a1 fun v0 h1 =>
pFieldA v0 1 fun v2 =>
pLoad1 h1 v2 fun v3 =>
pInt .rem v3 (.int .i64 (.ofNat 8)) fun v4 =>
pNil a0 fun v5 =>
pFieldA v5 6 fun v6 =>
pIdxP v6 v4 8 1 fun v7 =>
pFieldA v0 2 fun v8 =>
pLoad1 h1 v8 fun v9 =>
pInt .rem v9 (.int .i64 (.ofNat 8)) fun v10 =>
pNil a0 fun v11 =>
pFieldA v11 6 fun v12 =>
pIdxP v12 v10 8 1 fun v13 =>
pLoad1 h1 v13 fun v14 =>
pFieldA v0 3 fun v15 =>
pLoad1 h1 v15 fun v16 =>
pInt .rem v16 (.int .i64 (.ofNat 8)) fun v17 =>
pNil a0 fun v18 =>
pFieldA v18 6 fun v19 =>
pIdxP v19 v17 8 1 fun v20 =>
pLoad1 h1 v20 fun v21 =>
pFieldA v0 0 fun v22 =>
pLoad1 h1 v22 fun v23 =>
joinC (α := Unit → AH → List Nat → R) (fun _ h25 d26 =>
pLeave d26 h25 fun h28 =>
some ((.int .i64 (.ofNat 0)), h28)) fun j27 =>
pInt .eql v23 (.int .i64 (.ofNat 1)) fun v29 =>
pCond v29 (
pFieldA v0 4 fun v30 =>
pLoad1 h1 v30 fun v31 =>
pNil v7 fun v32 =>
pStore h1 v32 v31 1 fun h33 =>
j27 (()) h33 []) (
pInt .eql v23 (.int .i64 (.ofNat 2)) fun v34 =>
pCond v34 (
pNil v7 fun v35 =>
pStore h1 v35 v14 1 fun h36 =>
j27 (()) h36 []) (
pInt .eql v23 (.int .i64 (.ofNat 3)) fun v37 =>
pCond v37 (
pInt .add v14 v21 fun v38 =>
pNil v7 fun v39 =>
pStore h1 v39 v38 1 fun h40 =>
j27 (()) h40 []) (
pInt .eql v23 (.int .i64 (.ofNat 4)) fun v41 =>
pCond v41 (
pInt .sub v14 v21 fun v42 =>
pNil v7 fun v43 =>
pStore h1 v43 v42 1 fun h44 =>
j27 (()) h44 []) (
pInt .eql v23 (.int .i64 (.ofNat 5)) fun v45 =>
pCond v45 (
pInt .mul v14 v21 fun v46 =>
pNil v7 fun v47 =>
pStore h1 v47 v46 1 fun h48 =>
j27 (()) h48 []) (
pInt .eql v23 (.int .i64 (.ofNat 6)) fun v49 =>
pCond v49 (
pInt .lss v14 v21 fun v50 =>
pCall c (.fn 34 [] []) [v50] h1 fun v51 h52 =>
pNil v7 fun v53 =>
pStore h52 v53 v51 1 fun h54 =>
j27 (()) h54 []) (
pInt .eql v23 (.int .i64 (.ofNat 7)) fun v55 =>
pCond v55 (
pInt .eql v14 v21 fun v56 =>
pCall c (.fn 34 [] []) [v56] h1 fun v57 h58 =>
pNil v7 fun v59 =>
pStore h58 v59 v57 1 fun h60 =>
j27 (()) h60 []) (
pInt .eql v23 (.int .i64 (.ofNat 12)) fun v61 =>
pCond v61 (
pFieldA v0 3 fun v62 =>
pLoad1 h1 v62 fun v63 =>
pNil a0 fun v64 =>
pFieldA v64 16 fun v65 =>
pStore h1 v65 v63 1 fun h66 =>
j27 (()) h66 []) (
pInt .eql v23 (.int .i64 (.ofNat 13)) fun v67 =>
pCond v67 (
pNil v7 fun v68 =>
pLoad1 h1 v68 fun v69 =>
pInt .eql v69 (.int .u64 (.ofNat 0)) fun v70 =>
pCond v70 (
pFieldA v0 3 fun v71 =>
pLoad1 h1 v71 fun v72 =>
pNil a0 fun v73 =>
pFieldA v73 16 fun v74 =>
pStore h1 v74 v72 1 fun h75 =>
j27 (()) h75 []) (
j27 (()) h1 [])) (
pInt .eql v23 (.int .i64 (.ofNat 21)) fun v76 =>
pCond v76 (
pNil a0 fun v77 =>
pFieldA v77 14 fun v78 =>
pLoad1 h1 v78 fun v79 =>
pNil v7 fun v80 =>
pLoad1 h1 v80 fun v81 =>
pCall c (.fn 35 [] []) [v79, v81] h1 fun v82 h83 =>
pUn .not v82 fun v84 =>
pCond v84 (
some ((.int .i64 (.ofNat 5)), h83)) (
j27 (()) h83 [])) (
pInt .eql v23 (.int .i64 (.ofNat 22)) fun v85 =>
pCond v85 (
some ((.int .i64 (.ofNat 13)), h1)) (
pInt .eql v23 (.int .i64 (.ofNat 23)) fun v86 =>
pCond v86 (
pLoadN h1 v0 5 fun v87 =>
pCall c (.fn 36 [] []) [a0, v87] h1 fun v88 h89 =>
some (v88, h89)) (
joinC (α := AV × AV × AV × AV × AV × Unit → AH → List Nat → R) (fun s90 h91 d92 =>
pCond s90.1 (
pLoadN h91 s90.2.2.2.1 5 fun v94 =>
pCall c (.fn 37 [] []) [s90.2.2.2.2.1, v94, s90.2.2.1, s90.2.1] h91 fun v95 h96 =>
pLeave d92 h96 fun h97 =>
some (v95, h97)) (
pLoadN h91 s90.2.2.2.1 5 fun v98 =>
pCall c (.fn 38 [] []) [s90.2.2.2.2.1, v98] h91 fun v99 h100 =>
pLeave d92 h100 fun h101 =>
some (v99, h101))) fun j93 =>
pInt .eql v23 (.int .i64 (.ofNat 8)) fun v102 =>
pCond v102 (
j93 (v102, v14, v7, v0, a0, ()) h1 []) (
pInt .eql v23 (.int .i64 (.ofNat 9)) fun v103 =>
pCond v103 (
j93 (v103, v14, v7, v0, a0, ()) h1 []) (
pInt .eql v23 (.int .i64 (.ofNat 10)) fun v104 =>
pCond v104 (
j93 (v104, v14, v7, v0, a0, ()) h1 []) (
pInt .eql v23 (.int .i64 (.ofNat 11)) fun v105 =>
j93 (v105, v14, v7, v0, a0, ()) h1 [])))))))))))))))
theorem S22_eq (c : CV) (a0 a1 : AV) (h : AH) : enterK Tryz.prog NN P22 c 22 [a0, a1] h = S22 c a0 a1 h := by kernel_rfl
def W22 (c : CV) (l : List AV) (h : AH) : R := match l with | [a0, a1] => S22 c a0 a1 h | _ => none
theorem W22_ok : WOk Tryz.prog 22 W22 := by
  intro c l h r e
  unfold W22 at e
  split at e
  · exact ⟨P22, by rw [S22_eq]; exact e⟩
  · cases e
/- (*quietus/view.View).is -/
def P23 : Pl := (.n none .z (.n none (.r [[14, 7]]) .z))
def S23 (_ : CV) (a0 a1 : AV) (h : AH) : R :=
pInt .geq a1 (.int .i64 (.ofNat 1)) fun v0 =>
joinC (α := AV × AV × Unit → AH → R) (fun s1 h2 =>
pPick s1.2.1 s1.1 (.bool false) fun v4 =>
some (v4, h2)) fun j3 =>
pWant v0 true (
pNil a0 fun v5 =>
pFieldA v5 0 fun v6 =>
pLoad1 h v6 fun v7 =>
pLenS v7 fun v8 =>
pInt .lss a1 v8 fun v9 =>
j3 (v9, v0, ()) h) (
j3 (.undef, v0, ()) h)
theorem S23_eq (c : CV) (a0 a1 : AV) (h : AH) : enterK Tryz.prog NN P23 c 23 [a0, a1] h = S23 c a0 a1 h := by kernel_rfl
def W23 (c : CV) (l : List AV) (h : AH) : R := match l with | [a0, a1] => S23 c a0 a1 h | _ => none
theorem W23_ok : WOk Tryz.prog 23 W23 := by
  intro c l h r e
  unfold W23 at e
  split at e
  · exact ⟨P23, by rw [S23_eq]; exact e⟩
  · cases e
/- (*quietus/slate.Slate).Copy -/
def P24 : Pl := .z
def S24 (c : CV) (a0 : AV) (h : AH) : R :=
pNil a0 fun v0 =>
pFieldA v0 0 fun v1 =>
pLoad1 h v1 fun v2 =>
pCall c (.fn 39 [] []) [v2] h fun v3 h4 =>
pBuild [.nils] [(0, 1, v3)] fun v5 =>
pBox h4 66 v5 fun v6 h7 =>
some (v6, h7)
theorem S24_eq (c : CV) (a0 : AV) (h : AH) : enterK Tryz.prog NN P24 c 24 [a0] h = S24 c a0 h := by kernel_rfl
def W24 (c : CV) (l : List AV) (h : AH) : R := match l with | [a0] => S24 c a0 h | _ => none
theorem W24_ok : WOk Tryz.prog 24 W24 := by
  intro c l h r e
  unfold W24 at e
  split at e
  · exact ⟨P24, by rw [S24_eq]; exact e⟩
  · cases e
/- quietus/slate.word -/
def P25 : Pl := .z
def S25 (c : CV) (a0 : AV) (h : AH) : R :=
pAssertOk 26 (.int .u64 (.ofNat 0)) a0 fun v0 =>
pExtract v0 1 fun v1 =>
pExtract v0 0 fun v2 =>
pCond v1 (
pCall c (.fn 40 [] []) [v2, (.int .i64 (.ofNat 10))] h fun v3 h4 =>
some (v3, h4)) (
pAssertOk 4 (.bool false) a0 fun v5 =>
pExtract v5 1 fun v6 =>
pExtract v5 0 fun v7 =>
pCond v6 (
pCond v7 (
some ((.str [121, 101, 115]), h)) (
some ((.str [110, 111]), h))) (
some ((.str [110, 111, 110, 101]), h)))
theorem S25_eq (c : CV) (a0 : AV) (h : AH) : enterK Tryz.prog NN P25 c 25 [a0] h = S25 c a0 h := by kernel_rfl
def W25 (c : CV) (l : List AV) (h : AH) : R := match l with | [a0] => S25 c a0 h | _ => none
theorem W25_ok : WOk Tryz.prog 25 W25 := by
  intro c l h r e
  unfold W25 at e
  split at e
  · exact ⟨P25, by rw [S25_eq]; exact e⟩
  · cases e
/- strings.Join -/
def P26 : Pl := (.n none .z (.n none .z (.n none .z (.n (some [5, 1, 0]) (.n none .z (.n none (.n (some [5, 1, 0]) .z .z) .z)) (.n none (.n none .z (.n none (.n (some [41, 40, 39, 5, 1, 0]) (.n none .z (.n none .z (.n none (.n none (.n none .z (.n (some [41, 40, 39, 7, 5, 1, 0]) .z .z)) .z) .z))) .z) .z)) (.n none .z (.n none .z (.n none .z (.n none (.n none .z (.n none (.n (some [65, 64, 63, 8, 1]) .z .z) .z)) .z)))))))))
def S26 (c : CV) (a0 a1 : AV) (h : AH) : R :=
pLenS a0 fun v0 =>
pInt .eql v0 (.int .i64 (.ofNat 0)) fun v1 =>
pCond v1 (
some ((.str []), h)) (
pInt .eql v0 (.int .i64 (.ofNat 1)) fun v2 =>
pCond v2 (
pIdxS a0 (.int .i64 (.ofNat 0)) 1 fun v3 =>
pLoad1 h v3 fun v4 =>
some (v4, h)) (
joinC (α := AV × AV × AV × Unit → AH → List Nat → R) (fun s5 h6 d7 =>
pLenS s5.2.2.1 fun v9 =>
loopC (σ := AV × AV × AV × AV × AV × AV × Unit) NN (fun i13 s10 h11 d12 =>
pInt .lss s10.1 s10.2.1 fun v14 =>
pCond v14 (
pIdxS s10.2.2.1 s10.1 1 fun v15 =>
pLoad1 h11 v15 fun v16 =>
joinC (α := AV × AV × AV × AV × AV × AV × AV × Unit → AH → List Nat → R) (fun s17 h18 d19 =>
pLenStr s17.2.2.2.1 fun v21 =>
pInt .add s17.2.2.2.2.1 v21 fun v22 =>
pInt .add s17.1 (.int .i64 (.ofNat 1)) fun v23 =>
i13 (v23, s17.2.1, s17.2.2.1, v22, s17.2.2.2.2.2.1, s17.2.2.2.2.2.2.1, ()) h18 d19) fun j20 =>
pLenStr v16 fun v24 =>
pInt .sub (.int .i64 (.ofNat 9223372036854775807)) s10.2.2.2.1 fun v25 =>
pInt .gtr v24 v25 fun v26 =>
pCond v26 (
none /- op -/) (
j20 (s10.1, s10.2.1, s10.2.2.1, v16, s10.2.2.2.1, s10.2.2.2.2.1, s10.2.2.2.2.2.1, ()) h11 d12)) (
pBox h11 90 (.agg [.nilp, .nils]) fun v27 h28 =>
pCall c (.fn 41 [] []) [v27, s10.2.2.2.1] h28 fun _ h30 =>
pIdxS s10.2.2.2.2.2.1 (.int .i64 (.ofNat 0)) 1 fun v31 =>
pLoad1 h30 v31 fun v32 =>
pCall c (.fn 42 [] []) [v27, v32] h30 fun _ h34 =>
pSlice h34 9 1 s10.2.2.2.2.2.1 (some (.int .i64 (.ofNat 1))) none fun v35 =>
pLenS v35 fun v36 =>
loopC (σ := AV × AV × AV × AV × AV × Unit) NN (fun i40 s37 h38 d39 =>
pInt .lss s37.1 s37.2.1 fun v41 =>
pCond v41 (
pIdxS s37.2.2.1 s37.1 1 fun v42 =>
pLoad1 h38 v42 fun v43 =>
pCall c (.fn 42 [] []) [s37.2.2.2.1, s37.2.2.2.2.1] h38 fun _ h45 =>
pCall c (.fn 42 [] []) [s37.2.2.2.1, v43] h45 fun _ h47 =>
pInt .add s37.1 (.int .i64 (.ofNat 1)) fun v48 =>
i40 (v48, s37.2.1, s37.2.2.1, s37.2.2.2.1, s37.2.2.2.2.1, ()) h47 d39) (
pCall c (.fn 43 [] []) [s37.2.2.2.1] h38 fun v49 h50 =>
pLeave d39 h50 fun h51 =>
some (v49, h51))) ((.int .i64 (.ofNat 0)), v36, v35, v27, s10.2.2.2.2.1, ()) h34 d12)) ((.int .i64 (.ofNat 0)), v9, s5.2.2.1, s5.1, s5.2.1, s5.2.2.1, ()) h6 d7) fun j8 =>
pLenStr a1 fun v52 =>
pInt .gtr v52 (.int .i64 (.ofNat 0)) fun v53 =>
pCond v53 (
joinC (α := AV × AV × AV × Unit → AH → List Nat → R) (fun s54 h55 d56 =>
pLenStr s54.2.1 fun v58 =>
pLenS s54.2.2.1 fun v59 =>
pInt .sub v59 (.int .i64 (.ofNat 1)) fun v60 =>
pInt .mul v58 v60 fun v61 =>
pInt .add s54.1 v61 fun v62 =>
j8 (v62, s54.2.1, s54.2.2.1, ()) h55 d56) fun j57 =>
pLenStr a1 fun v63 =>
pLenS a0 fun v64 =>
pInt .sub v64 (.int .i64 (.ofNat 1)) fun v65 =>
pInt .quo (.int .i64 (.ofNat 9223372036854775807)) v65 fun v66 =>
pInt .geq v63 v66 fun v67 =>
pCond v67 (
none /- op -/) (
j57 ((.int .i64 (.ofNat 0)), a1, a0, ()) h [])) (
j8 ((.int .i64 (.ofNat 0)), a1, a0, ()) h [])))
theorem S26_eq (c : CV) (a0 a1 : AV) (h : AH) : enterK Tryz.prog NN P26 c 26 [a0, a1] h = S26 c a0 a1 h := by kernel_rfl
def W26 (c : CV) (l : List AV) (h : AH) : R := match l with | [a0, a1] => S26 c a0 a1 h | _ => none
theorem W26_ok : WOk Tryz.prog 26 W26 := by
  intro c l h r e
  unfold W26 at e
  split at e
  · exact ⟨P26, by rw [S26_eq]; exact e⟩
  · cases e
/- quietus/check.wrong -/
def P27 : Pl := (.n none .z (.n none (.n none (.n none .z (.n none .z (.n none (.r [[11, 5, 3, 1]]) (.n none .z (.n none (.r [[33, 29, 5, 1]]) (.n none .z (.n none (.r [[42, 39]]) .z))))))) .z) .z))
def S27 (c : CV) (a0 a1 a2 : AV) (h : AH) : R :=
pBox h 31 a0 fun v0 h1 =>
pBox h1 28 a2 fun v2 h3 =>
pLoadN h3 v2 5 fun v4 =>
pCall c (.fn 44 [] []) [v4] h3 fun v5 h6 =>
pUn .not v5 fun v7 =>
pCond v7 (
some ((.int .i64 (.ofNat 8)), h6)) (
joinC (α := AV × AV × AV × AV × Unit → AH → R) (fun s8 h9 =>
pCond s8.1 (
some ((.int .i64 (.ofNat 12)), h9)) (
pFieldA s8.2.1 0 fun v11 =>
pLoad1 h9 v11 fun v12 =>
pInt .eql v12 (.int .i64 (.ofNat 16)) fun v13 =>
joinC (α := AV × AV × AV × AV × Unit → AH → R) (fun s14 h15 =>
pPick s14.2.1 s14.1 (.bool false) fun v17 =>
pCond v17 (
some ((.int .i64 (.ofNat 12)), h15)) (
pFieldA s14.2.2.1 0 fun v18 =>
pLoad1 h15 v18 fun v19 =>
pCall c (.fn 46 [] []) [v19] h15 fun v20 h21 =>
joinC (α := AV × AV × Unit → AH → R) (fun s22 h23 =>
pPick s22.2.1 s22.1 (.bool false) fun v25 =>
pCond v25 (
some ((.int .i64 (.ofNat 9)), h23)) (
some ((.int .i64 (.ofNat 0)), h23))) fun j24 =>
pWant v20 true (
pLenS s14.2.2.2.1 fun v26 =>
pInt .geq v26 (.int .i64 (.ofNat 5)) fun v27 =>
j24 (v27, v20, ()) h21) (
j24 (.undef, v20, ()) h21))) fun j16 =>
pWant v13 true (
pLoadN h9 s8.2.2.1 1 fun v28 =>
pCall c (.fn 45 [] []) [s8.2.2.2.1, v28] h9 fun v29 h30 =>
pInt .neq v29 (.int .i64 (.ofNat 14)) fun v31 =>
j16 (v31, v13, s8.2.1, s8.2.2.2.1, ()) h30) (
j16 (.undef, v13, s8.2.1, s8.2.2.2.1, ()) h9))) fun j10 =>
pFieldA v2 0 fun v32 =>
pLoad1 h6 v32 fun v33 =>
pCall c (.fn 33 [] []) [v33] h6 fun v34 h35 =>
pInt .gtr v34 (.int .i64 (.ofNat 0)) fun v36 =>
pWant v36 true (
pLoadN h35 v0 1 fun v37 =>
pCall c (.fn 45 [] []) [a1, v37] h35 fun v38 h39 =>
pFieldA v2 0 fun v40 =>
pLoad1 h39 v40 fun v41 =>
pCall c (.fn 33 [] []) [v41] h39 fun v42 h43 =>
pInt .neq v38 v42 fun v44 =>
pPick v36 v44 (.bool false) fun v45 =>
pChk v40 none v41 h35 h39 h6.nx <|
j10 (v45, v2, v0, a1, ()) h43) (
pPick v36 .undef (.bool false) fun v46 =>
j10 (v46, v2, v0, a1, ()) h35))
theorem S27_eq (c : CV) (a0 a1 a2 : AV) (h : AH) : enterK Tryz.prog NN P27 c 27 [a0, a1, a2] h = S27 c a0 a1 a2 h := by kernel_rfl
def W27 (c : CV) (l : List AV) (h : AH) : R := match l with | [a0, a1, a2] => S27 c a0 a1 a2 h | _ => none
theorem W27_ok : WOk Tryz.prog 27 W27 := by
  intro c l h r e
  unfold W27 at e
  split at e
  · exact ⟨P27, by rw [S27_eq]; exact e⟩
  · cases e
/- (quietus/check.stack).behind -/
def P28 : Pl := (.n none .z (.n (some [2, 1, 0]) .z (.n (some [0]) (.n none (.r [[19, 17, 1, 0]]) .z) .z)))
def S28 (c : CV) (a0 a1 a2 : AV) (h : AH) : R :=
joinC (α := AV × AV × AV × Unit → AH → List Nat → R) (fun s0 h1 d2 =>
joinC (α := AV × Unit → AH → List Nat → R) (fun s4 h5 d6 =>
pLeave d6 h5 fun h8 =>
some (s4.1, h8)) fun j7 =>
pCall c (.fn 46 [] []) [s0.1] h1 fun v9 h10 =>
joinC (α := AV × AV × AV × AV × Unit → AH → R) (fun s11 h12 =>
pPick s11.2.1 (.bool true) s11.1 fun v14 =>
pCond v14 (
pBuildS h12 3 [(.int .i64 (.ofNat 0))] 1 [(0, 1, s11.2.2.1)] fun v15 h16 =>
pAppend h16 3 1 s11.2.2.2.1 v15 fun v17 h18 =>
j7 (v17, ()) h18 d2) (
j7 (s11.2.2.2.1, ()) h12 d2)) fun j13 =>
pWant v9 false (
pInt .eql s0.1 (.int .i64 (.ofNat 18)) fun v19 =>
j13 (v19, v9, s0.2.1, s0.2.2.1, ()) h10) (
j13 (.undef, v9, s0.2.1, s0.2.2.1, ()) h10)) fun j3 =>
pCall c (.fn 33 [] []) [a2] h fun v20 h21 =>
pInt .gtr v20 (.int .i64 (.ofNat 0)) fun v22 =>
pCond v22 (
pLenS a0 fun v23 =>
pInt .sub v23 (.int .i64 (.ofNat 1)) fun v24 =>
pSlice h21 3 1 a0 none (some v24) fun v25 =>
j3 (a2, a1, v25, ()) h21 []) (
j3 (a2, a1, a0, ()) h21 [])
theorem S28_eq (c : CV) (a0 a1 a2 : AV) (h : AH) : enterK Tryz.prog NN P28 c 28 [a0, a1, a2] h = S28 c a0 a1 a2 h := by kernel_rfl
def W28 (c : CV) (l : List AV) (h : AH) : R := match l with | [a0, a1, a2] => S28 c a0 a1 a2 h | _ => none
theorem W28_ok : WOk Tryz.prog 28 W28 := by
  intro c l h r e
  unfold W28 at e
  split at e
  · exact ⟨P28, by rw [S28_eq]; exact e⟩
  · cases e
/- (quietus/check.stack).inmost -/
def P29 : Pl := .z
def S29 (_ : CV) (a0 : AV) (h : AH) : R :=
pLenS a0 fun v0 =>
pInt .eql v0 (.int .i64 (.ofNat 0)) fun v1 =>
pCond v1 (
some ((.int .i64 (.negSucc 0)), h)) (
pLenS a0 fun v2 =>
pInt .sub v2 (.int .i64 (.ofNat 1)) fun v3 =>
pIdxS a0 v3 1 fun v4 =>
pLoad1 h v4 fun v5 =>
some (v5, h))
theorem S29_eq (c : CV) (a0 : AV) (h : AH) : enterK Tryz.prog NN P29 c 29 [a0] h = S29 c a0 h := by kernel_rfl
def W29 (c : CV) (l : List AV) (h : AH) : R := match l with | [a0] => S29 c a0 h | _ => none
theorem W29_ok : WOk Tryz.prog 29 W29 := by
  intro c l h r e
  unfold W29 at e
  split at e
  · exact ⟨P29, by rw [S29_eq]; exact e⟩
  · cases e
/- quietus/check.jumps -/
def P30 : Pl := (.n none .z (.n none (.n none .z (.n none (.n (some [11, 10, 9, 2, 1]) (.n none .z (.n none .z (.n none (.n (some [11, 10, 9, 2, 1]) (.n none .z (.n none .z (.n none (.r [[33, 26, 11, 10, 9, 7, 6, 2, 1], [38, 33, 26, 11, 10, 9, 7, 6, 2, 1], [39, 26, 11, 10, 9, 7, 6, 2, 1], [48, 41, 11, 10, 9, 7, 6, 2, 1], [58, 48, 41, 11, 10, 9, 6, 2, 1], [59, 41, 11, 10, 9, 6, 2, 1]]) .z))) .z) .z))) .z) .z)) .z))
def S30 (c : CV) (a0 a1 : AV) (h : AH) : R :=
pBox h 31 a0 fun v0 h1 =>
pFieldA v0 0 fun v2 =>
pLoad1 h1 v2 fun v3 =>
pLenS v3 fun v4 =>
loopC (σ := AV × AV × AV × AV × AV × Unit) NN (fun i8 s5 h6 d7 =>
pInt .lss s5.1 s5.2.1 fun v9 =>
pCond v9 (
joinC (α := AV × AV × AV × AV × AV × Unit → AH → List Nat → R) (fun s10 h11 d12 =>
pInt .add s10.1 (.int .i64 (.ofNat 1)) fun v14 =>
i8 (v14, s10.2.1, s10.2.2.1, s10.2.2.2.1, s10.2.2.2.2.1, ()) h11 d12) fun j13 =>
pIdxS s5.2.2.1 s5.1 5 fun v15 =>
pLoadN h6 v15 5 fun v16 =>
pBox h6 28 (.agg [(.int .i64 (.ofNat 0)), (.int .i64 (.ofNat 0)), (.int .i64 (.ofNat 0)), (.int .i64 (.ofNat 0)), (.int .u64 (.ofNat 0))]) fun v17 h18 =>
pStore h18 v17 v16 5 fun h19 =>
pFieldA v17 0 fun v20 =>
pLoad1 h19 v20 fun v21 =>
pCall c (.fn 47 [] []) [v21] h19 fun v22 h23 =>
pUn .not v22 fun v24 =>
pCond v24 (
j13 (s5.1, s5.2.1, s5.2.2.1, s5.2.2.2.1, s5.2.2.2.2.1, ()) h23 d7) (
pFieldA v17 3 fun v25 =>
pLoad1 h23 v25 fun v26 =>
pFieldA s5.2.2.2.1 0 fun v27 =>
pLoad1 h23 v27 fun v28 =>
pLenS v28 fun v29 =>
pInt .gtr v26 v29 fun v30 =>
joinC (α := AV × AV × AV × AV × AV × AV × AV × AV × AV × Unit → AH → R) (fun s31 h32 =>
joinC (α := AV × AV × AV × AV × AV × AV × AV × AV × AV × AV × Unit → AH → R) (fun s34 h35 =>
joinC (α := AV × AV × AV × AV × AV × AV × AV × AV × AV × Unit → AH → R) (fun s37 h38 =>
pPick s37.2.1 (.bool true) s37.1 fun v40 =>
joinC (α := AV × AV × AV × AV × AV × AV × AV × AV × AV × Unit → AH → R) (fun s41 h42 =>
joinC (α := AV × AV × AV × AV × AV × AV × AV × AV × AV × Unit → AH → R) (fun s44 h45 =>
joinC (α := AV × AV × AV × AV × AV × AV × AV × AV × Unit → AH → R) (fun s47 h48 =>
pPick s47.2.1 (.bool true) s47.1 fun v50 =>
pCond v50 (
pLeave d7 h48 fun h51 =>
some ((.tup [s47.2.2.2.2.2.1, (.int .i64 (.ofNat 2))]), h51)) (
j13 (s47.2.2.1, s47.2.2.2.1, s47.2.2.2.2.1, s47.2.2.2.2.2.2.1, s47.2.2.2.2.2.2.2.1, ()) h48 d7)) fun j49 =>
pWant s44.2.2.1 false (
pPick s44.2.1 s44.1 (.bool false) fun v52 =>
j49 (v52, s44.2.2.1, s44.2.2.2.1, s44.2.2.2.2.1, s44.2.2.2.2.2.1, s44.2.2.2.2.2.2.1, s44.2.2.2.2.2.2.2.1, s44.2.2.2.2.2.2.2.2.1, ()) h45) (
j49 (.undef, s44.2.2.1, s44.2.2.2.1, s44.2.2.2.2.1, s44.2.2.2.2.2.1, s44.2.2.2.2.2.2.1, s44.2.2.2.2.2.2.2.1, s44.2.2.2.2.2.2.2.2.1, ()) h45)) fun j46 =>
pWant s41.1 true (
pFieldA s41.2.2.2.2.2.1 3 fun v53 =>
pLoad1 h42 v53 fun v54 =>
pIdxS s41.2.2.2.2.2.2.2.2.1 v54 1 fun v55 =>
pLoad1 h42 v55 fun v56 =>
pIdxS s41.2.2.2.2.2.2.2.2.1 s41.2.2.2.2.2.2.1 1 fun v57 =>
pLoad1 h42 v57 fun v58 =>
pInt .neq v56 v58 fun v59 =>
j46 (v59, s41.1, s41.2.1, s41.2.2.1, s41.2.2.2.1, s41.2.2.2.2.1, s41.2.2.2.2.2.2.1, s41.2.2.2.2.2.2.2.1, s41.2.2.2.2.2.2.2.2.1, ()) h42) (
j46 (.undef, s41.1, s41.2.1, s41.2.2.1, s41.2.2.2.1, s41.2.2.2.2.1, s41.2.2.2.2.2.2.1, s41.2.2.2.2.2.2.2.1, s41.2.2.2.2.2.2.2.2.1, ()) h42)) fun j43 =>
pWant v40 false (
pFieldA s37.2.2.2.2.2.1 3 fun v60 =>
pLoad1 h38 v60 fun v61 =>
pFieldA s37.2.2.2.2.2.2.2.1 0 fun v62 =>
pLoad1 h38 v62 fun v63 =>
pLenS v63 fun v64 =>
pInt .lss v61 v64 fun v65 =>
j43 (v65, v40, s37.2.2.1, s37.2.2.2.1, s37.2.2.2.2.1, s37.2.2.2.2.2.1, s37.2.2.2.2.2.2.1, s37.2.2.2.2.2.2.2.1, s37.2.2.2.2.2.2.2.2.1, ()) h38) (
j43 (.undef, v40, s37.2.2.1, s37.2.2.2.1, s37.2.2.2.2.1, s37.2.2.2.2.2.1, s37.2.2.2.2.2.2.1, s37.2.2.2.2.2.2.2.1, s37.2.2.2.2.2.2.2.2.1, ()) h38)) fun j39 =>
pWant s34.2.2.1 false (
pPick s34.2.1 s34.1 (.bool false) fun v66 =>
j39 (v66, s34.2.2.1, s34.2.2.2.1, s34.2.2.2.2.1, s34.2.2.2.2.2.1, s34.2.2.2.2.2.2.1, s34.2.2.2.2.2.2.2.1, s34.2.2.2.2.2.2.2.2.1, s34.2.2.2.2.2.2.2.2.2.1, ()) h35) (
j39 (.undef, s34.2.2.1, s34.2.2.2.1, s34.2.2.2.2.1, s34.2.2.2.2.2.1, s34.2.2.2.2.2.2.1, s34.2.2.2.2.2.2.2.1, s34.2.2.2.2.2.2.2.2.1, s34.2.2.2.2.2.2.2.2.2.1, ()) h35)) fun j36 =>
pWant s31.1 true (
pIdxS s31.2.2.2.2.2.2.2.2.1 s31.2.2.2.2.2.2.1 1 fun v67 =>
pLoad1 h32 v67 fun v68 =>
pInt .neq v68 (.int .i64 (.negSucc 0)) fun v69 =>
j36 (v69, s31.1, s31.2.1, s31.2.2.1, s31.2.2.2.1, s31.2.2.2.2.1, s31.2.2.2.2.2.1, s31.2.2.2.2.2.2.1, s31.2.2.2.2.2.2.2.1, s31.2.2.2.2.2.2.2.2.1, ()) h32) (
j36 (.undef, s31.1, s31.2.1, s31.2.2.1, s31.2.2.2.1, s31.2.2.2.2.1, s31.2.2.2.2.2.1, s31.2.2.2.2.2.2.1, s31.2.2.2.2.2.2.2.1, s31.2.2.2.2.2.2.2.2.1, ()) h32)) fun j33 =>
pWant v30 false (
pFieldA v17 3 fun v70 =>
pLoad1 h23 v70 fun v71 =>
pFieldA s5.2.2.2.1 0 fun v72 =>
pLoad1 h23 v72 fun v73 =>
pLenS v73 fun v74 =>
pInt .eql v71 v74 fun v75 =>
j33 (v75, v30, s5.1, s5.2.1, s5.2.2.1, v17, s5.1, s5.2.2.2.1, s5.2.2.2.2.1, ()) h23) (
j33 (.undef, v30, s5.1, s5.2.1, s5.2.2.1, v17, s5.1, s5.2.2.2.1, s5.2.2.2.2.1, ()) h23))) (
pLeave d7 h6 fun h76 =>
some ((.tup [(.int .i64 (.ofNat 0)), (.int .i64 (.ofNat 0))]), h76))) ((.int .i64 (.ofNat 0)), v4, v3, v0, a1, ()) h1 []
theorem S30_eq (c : CV) (a0 a1 : AV) (h : AH) : enterK Tryz.prog NN P30 c 30 [a0, a1] h = S30 c a0 a1 h := by kernel_rfl
def W30 (c : CV) (l : List AV) (h : AH) : R := match l with | [a0, a1] => S30 c a0 a1 h | _ => none
theorem W30_ok : WOk Tryz.prog 30 W30 := by
  intro c l h r e
  unfold W30 at e
  split at e
  · exact ⟨P30, by rw [S30_eq]; exact e⟩
  · cases e
/- quietus/check.regions -/
def P31 : Pl := (.n none .z (.n none .z (.n none .z (.n none (.n none .z (.n none (.n (some [14, 13, 12, 4, 3]) .z .z) .z)) .z))))
def S31 (c : CV) (a0 : AV) (h : AH) : R :=
pBox h 31 a0 fun v0 h1 =>
pFieldA v0 0 fun v2 =>
pLoad1 h1 v2 fun v3 =>
pLenS v3 fun v4 =>
pMake h1 3 [(.int .i64 (.ofNat 0))] v4 v4 fun v5 h6 =>
pFieldA v0 0 fun v7 =>
pLoad1 h6 v7 fun v8 =>
pLenS v8 fun v9 =>
loopC (σ := AV × AV × AV × AV × AV × Unit) NN (fun i13 s10 h11 d12 =>
pInt .lss s10.1 s10.2.1 fun v14 =>
pCond v14 (
pIdxS s10.2.2.1 s10.1 5 fun v15 =>
pLoadN h11 v15 5 fun v16 =>
pBox h11 28 (.agg [(.int .i64 (.ofNat 0)), (.int .i64 (.ofNat 0)), (.int .i64 (.ofNat 0)), (.int .i64 (.ofNat 0)), (.int .u64 (.ofNat 0))]) fun v17 h18 =>
pStore h18 v17 v16 5 fun h19 =>
pCall c (.fn 29 [] []) [s10.2.2.2.1] h19 fun v20 h21 =>
pIdxS s10.2.2.2.2.1 s10.1 1 fun v22 =>
pStore h21 v22 v20 1 fun h23 =>
pFieldA v17 0 fun v24 =>
pLoad1 h23 v24 fun v25 =>
pCall c (.fn 28 [] []) [s10.2.2.2.1, s10.1, v25] h23 fun v26 h27 =>
pInt .add s10.1 (.int .i64 (.ofNat 1)) fun v28 =>
i13 (v28, s10.2.1, s10.2.2.1, v26, s10.2.2.2.2.1, ()) h27 d12) (
pLeave d12 h11 fun h29 =>
some (s10.2.2.2.2.1, h29))) ((.int .i64 (.ofNat 0)), v9, v8, .nils, v5, ()) h6 []
theorem S31_eq (c : CV) (a0 : AV) (h : AH) : enterK Tryz.prog NN P31 c 31 [a0] h = S31 c a0 h := by kernel_rfl
def W31 (c : CV) (l : List AV) (h : AH) : R := match l with | [a0] => S31 c a0 h | _ => none
theorem W31_ok : WOk Tryz.prog 31 W31 := by
  intro c l h r e
  unfold W31 at e
  split at e
  · exact ⟨P31, by rw [S31_eq]; exact e⟩
  · cases e
/- quietus/levels.fresh -/
def P32 : Pl := .z
def S32 (c : CV) (h : AH) : R :=
pCall c (.fn 48 [] []) [(.int .i64 (.ofNat 96))] h fun v0 h1 =>
pBuild [.nilp, .nils] [(0, 1, v0)] fun v2 =>
pBox h1 101 v2 fun v3 h4 =>
some (v3, h4)
theorem S32_eq (c : CV) (h : AH) : enterK Tryz.prog NN P32 c 32 [] h = S32 c h := by kernel_rfl
def W32 (c : CV) (l : List AV) (h : AH) : R := match l with | [] => S32 c h | _ => none
theorem W32_ok : WOk Tryz.prog 32 W32 := by
  intro c l h r e
  unfold W32 at e
  split at e
  · exact ⟨P32, by rw [S32_eq]; exact e⟩
  · cases e
/- quietus/check.ends -/
def P33 : Pl := .z
def S33 (_ : CV) (a0 : AV) (h : AH) : R :=
pInt .eql a0 (.int .i64 (.ofNat 15)) fun v0 =>
pCond v0 (
some ((.int .i64 (.ofNat 14)), h)) (
pInt .eql a0 (.int .i64 (.ofNat 18)) fun v1 =>
pCond v1 (
some ((.int .i64 (.ofNat 17)), h)) (
pInt .eql a0 (.int .i64 (.ofNat 19)) fun v2 =>
pCond v2 (
some ((.int .i64 (.ofNat 18)), h)) (
some ((.int .i64 (.ofNat 0)), h))))
theorem S33_eq (c : CV) (a0 : AV) (h : AH) : enterK Tryz.prog NN P33 c 33 [a0] h = S33 c a0 h := by kernel_rfl
def W33 (c : CV) (l : List AV) (h : AH) : R := match l with | [a0] => S33 c a0 h | _ => none
theorem W33_ok : WOk Tryz.prog 33 W33 := by
  intro c l h r e
  unfold W33 at e
  split at e
  · exact ⟨P33, by rw [S33_eq]; exact e⟩
  · cases e
/- quietus/interp.truth -/
def P34 : Pl := .z
def S34 (_ : CV) (a0 : AV) (h : AH) : R :=
pCond a0 (
some ((.int .u64 (.ofNat 1)), h)) (
some ((.int .u64 (.ofNat 0)), h))
theorem S34_eq (c : CV) (a0 : AV) (h : AH) : enterK Tryz.prog NN P34 c 34 [a0] h = S34 c a0 h := by kernel_rfl
def W34 (c : CV) (l : List AV) (h : AH) : R := match l with | [a0] => S34 c a0 h | _ => none
theorem W34_ok : WOk Tryz.prog 34 W34 := by
  intro c l h r e
  unfold W34 at e
  split at e
  · exact ⟨P34, by rw [S34_eq]; exact e⟩
  · cases e
/- (*quietus/slate.Slate).AddNum -/
def P35 : Pl := .z
def S35 (c : CV) (a0 a1 : AV) (h : AH) : R :=
pCall c (.fn 49 [] []) [a0, (.iface 26 a1)] h fun v0 h1 =>
some (v0, h1)
theorem S35_eq (c : CV) (a0 a1 : AV) (h : AH) : enterK Tryz.prog NN P35 c 35 [a0, a1] h = S35 c a0 a1 h := by kernel_rfl
def W35 (c : CV) (l : List AV) (h : AH) : R := match l with | [a0, a1] => S35 c a0 a1 h | _ => none
theorem W35_ok : WOk Tryz.prog 35 W35 := by
  intro c l h r e
  unfold W35 at e
  split at e
  · exact ⟨P35, by rw [S35_eq]; exact e⟩
  · cases e
/- (*quietus/interp.Interp).call -/
def P36 : Pl := (.n none .z (.n none .z (.n none (.n none .z (.n none (.n none .z (.n none (.n none (.r [[4]]) .z) (.n none .z (.n none (.n none (.r [[4]]) .z) (.n none .z (.n none (.n none (.r [[4]]) .z) (.n none .z (.n none (.n none (.r [[4]]) .z) (.n none .z (.n none (.n none (.r [[4]]) .z) (.n none .z (.n none (.n none (.r [[4]]) .z) (.n none .z (.n none .z (.n none .z (.n none .z (.n none .z (.n none (.n none (.r [[4]]) .z) (.n none .z (.n none (.n none (.r [[4]]) .z) (.n none .z (.n none (.n none (.r [[4]]) .z) .z)))))))))))))))))))))) .z)) .z)))
def S36 (c : CV) (a0 a1 : AV) (h : AH) : R :=
pBox h 28 a1 fun v0 h1 =>
pFieldA v0 2 fun v2 =>
pLoad1 h1 v2 fun v3 =>
pInt .add (.int .i64 (.ofNat 6)) v3 fun v4 =>
pFieldA v0 3 fun v5 =>
pLoad1 h1 v5 fun v6 =>
pNil a0 fun v7 =>
pFieldA v7 6 fun v8 =>
pIdxP v8 v6 8 1 fun v9 =>
pLoad1 h1 v9 fun v10 =>
pFieldA v0 3 fun v11 =>
pLoad1 h1 v11 fun v12 =>
pInt .add v12 (.int .i64 (.ofNat 1)) fun v13 =>
pNil a0 fun v14 =>
pFieldA v14 6 fun v15 =>
pIdxP v15 v13 8 1 fun v16 =>
pLoad1 h1 v16 fun v17 =>
pFieldA v0 1 fun v18 =>
pLoad1 h1 v18 fun v19 =>
pInt .eql v19 (.int .i64 (.ofNat 1)) fun v20 =>
pCond v20 (
joinC (α := AV × Unit → AH → R) (fun s21 h22 =>
some (s21.1, h22)) fun j23 =>
pLoadN h1 v0 5 fun v24 =>
pCall c (.fn 50 [] []) [a0, v24] h1 fun v25 h26 =>
pNil a0 fun v27 =>
pFieldA v27 1 fun v28 =>
pLoad1 h26 v28 fun v29 =>
pCall c (.fn 51 [] []) [v29, v4, v10] h26 fun v30 h31 =>
pExtract v30 0 fun v32 =>
pExtract v30 1 fun v33 =>
pCall c v25 [v32, v33] h31 fun v34 h35 =>
pChk v28 none v29 h1 h26 h1.nx <|
j23 (v34, ()) h35) (
pInt .eql v19 (.int .i64 (.ofNat 2)) fun v36 =>
pCond v36 (
joinC (α := AV × Unit → AH → R) (fun s37 h38 =>
some (s37.1, h38)) fun j39 =>
pLoadN h1 v0 5 fun v40 =>
pCall c (.fn 50 [] []) [a0, v40] h1 fun v41 h42 =>
pNil a0 fun v43 =>
pFieldA v43 1 fun v44 =>
pLoad1 h42 v44 fun v45 =>
pCall c (.fn 52 [] []) [v45, v4, v10] h42 fun v46 h47 =>
pExtract v46 0 fun v48 =>
pExtract v46 1 fun v49 =>
pCall c v41 [v48, v49] h47 fun v50 h51 =>
pChk v44 none v45 h1 h42 h1.nx <|
j39 (v50, ()) h51) (
pInt .eql v19 (.int .i64 (.ofNat 3)) fun v52 =>
pCond v52 (
joinC (α := AV × Unit → AH → R) (fun s53 h54 =>
some (s53.1, h54)) fun j55 =>
pLoadN h1 v0 5 fun v56 =>
pCall c (.fn 50 [] []) [a0, v56] h1 fun v57 h58 =>
pNil a0 fun v59 =>
pFieldA v59 1 fun v60 =>
pLoad1 h58 v60 fun v61 =>
pCall c (.fn 53 [] []) [v61, v4, v10] h58 fun v62 h63 =>
pExtract v62 0 fun v64 =>
pExtract v62 1 fun v65 =>
pCall c v57 [v64, v65] h63 fun v66 h67 =>
pChk v60 none v61 h1 h58 h1.nx <|
j55 (v66, ()) h67) (
pInt .eql v19 (.int .i64 (.ofNat 4)) fun v68 =>
pCond v68 (
joinC (α := AV × Unit → AH → R) (fun s69 h70 =>
some (s69.1, h70)) fun j71 =>
pLoadN h1 v0 5 fun v72 =>
pCall c (.fn 50 [] []) [a0, v72] h1 fun v73 h74 =>
pNil a0 fun v75 =>
pFieldA v75 1 fun v76 =>
pLoad1 h74 v76 fun v77 =>
pCall c (.fn 54 [] []) [v77, v4, v10, v17] h74 fun v78 h79 =>
pExtract v78 0 fun v80 =>
pExtract v78 1 fun v81 =>
pCall c v73 [v80, v81] h79 fun v82 h83 =>
pChk v76 none v77 h1 h74 h1.nx <|
j71 (v82, ()) h83) (
pInt .eql v19 (.int .i64 (.ofNat 5)) fun v84 =>
pCond v84 (
joinC (α := AV × Unit → AH → R) (fun s85 h86 =>
some (s85.1, h86)) fun j87 =>
pLoadN h1 v0 5 fun v88 =>
pCall c (.fn 55 [] []) [a0, v88] h1 fun v89 h90 =>
pNil a0 fun v91 =>
pFieldA v91 1 fun v92 =>
pLoad1 h90 v92 fun v93 =>
pCall c (.fn 56 [] []) [v93, v4, v10] h90 fun v94 h95 =>
pExtract v94 0 fun v96 =>
pExtract v94 1 fun v97 =>
pExtract v94 2 fun v98 =>
pCall c v89 [v96, v97, v98] h95 fun v99 h100 =>
pChk v92 none v93 h1 h90 h1.nx <|
j87 (v99, ()) h100) (
pInt .eql v19 (.int .i64 (.ofNat 6)) fun v101 =>
pCond v101 (
joinC (α := AV × Unit → AH → R) (fun s102 h103 =>
some (s102.1, h103)) fun j104 =>
pLoadN h1 v0 5 fun v105 =>
pCall c (.fn 50 [] []) [a0, v105] h1 fun v106 h107 =>
pNil a0 fun v108 =>
pFieldA v108 1 fun v109 =>
pLoad1 h107 v109 fun v110 =>
pCall c (.fn 57 [] []) [v110, v4, v10] h107 fun v111 h112 =>
pExtract v111 0 fun v113 =>
pExtract v111 1 fun v114 =>
pCall c v106 [v113, v114] h112 fun v115 h116 =>
pChk v109 none v110 h1 h107 h1.nx <|
j104 (v115, ()) h116) (
pInt .eql v19 (.int .i64 (.ofNat 7)) fun v117 =>
pCond v117 (
pCall c (.fn 58 [] []) [a0, v4, v10] h1 fun v118 h119 =>
some (v118, h119)) (
pInt .eql v19 (.int .i64 (.ofNat 8)) fun v120 =>
pCond v120 (
pLoadN h1 v0 5 fun v121 =>
pCall c (.fn 59 [] []) [a0, v121, v4] h1 fun v122 h123 =>
some (v122, h123)) (
pInt .eql v19 (.int .i64 (.ofNat 9)) fun v124 =>
pCond v124 (
joinC (α := AV × Unit → AH → R) (fun s125 h126 =>
some (s125.1, h126)) fun j127 =>
pLoadN h1 v0 5 fun v128 =>
pCall c (.fn 50 [] []) [a0, v128] h1 fun v129 h130 =>
pNil a0 fun v131 =>
pFieldA v131 1 fun v132 =>
pLoad1 h130 v132 fun v133 =>
pCall c (.fn 60 [] []) [v133, v4, v10, v17] h130 fun v134 h135 =>
pExtract v134 0 fun v136 =>
pExtract v134 1 fun v137 =>
pCall c v129 [v136, v137] h135 fun v138 h139 =>
pChk v132 none v133 h1 h130 h1.nx <|
j127 (v138, ()) h139) (
pInt .eql v19 (.int .i64 (.ofNat 10)) fun v140 =>
pCond v140 (
joinC (α := AV × Unit → AH → R) (fun s141 h142 =>
some (s141.1, h142)) fun j143 =>
pLoadN h1 v0 5 fun v144 =>
pCall c (.fn 55 [] []) [a0, v144] h1 fun v145 h146 =>
pNil a0 fun v147 =>
pFieldA v147 1 fun v148 =>
pLoad1 h146 v148 fun v149 =>
pCall c (.fn 61 [] []) [v149, v4, v10] h146 fun v150 h151 =>
pExtract v150 0 fun v152 =>
pExtract v150 1 fun v153 =>
pExtract v150 2 fun v154 =>
pCall c v145 [v152, v153, v154] h151 fun v155 h156 =>
pChk v148 none v149 h1 h146 h1.nx <|
j143 (v155, ()) h156) (
pInt .eql v19 (.int .i64 (.ofNat 11)) fun v157 =>
pCond v157 (
joinC (α := AV × Unit → AH → R) (fun s158 h159 =>
some (s158.1, h159)) fun j160 =>
pLoadN h1 v0 5 fun v161 =>
pCall c (.fn 50 [] []) [a0, v161] h1 fun v162 h163 =>
pNil a0 fun v164 =>
pFieldA v164 1 fun v165 =>
pLoad1 h163 v165 fun v166 =>
pCall c (.fn 62 [] []) [v166, v4, v10] h163 fun v167 h168 =>
pExtract v167 0 fun v169 =>
pExtract v167 1 fun v170 =>
pCall c v162 [v169, v170] h168 fun v171 h172 =>
pChk v165 none v166 h1 h163 h1.nx <|
j160 (v171, ()) h172) (
pNil a0 fun v173 =>
pFieldA v173 1 fun v174 =>
pLoad1 h1 v174 fun v175 =>
pCall c (.fn 63 [] []) [v175, v4, v10, v17] h1 fun v176 h177 =>
pExtract v176 0 fun v178 =>
pExtract v176 1 fun v179 =>
pLoadN h177 v0 5 fun v180 =>
pCall c (.fn 55 [] []) [a0, v180] h177 fun v181 h182 =>
pLenS v178 fun v183 =>
pConvI .u64 v183 fun v184 =>
pCall c v181 [v184, (.bool true), v179] h182 fun v185 h186 =>
some (v185, h186))))))))))))
theorem S36_eq (c : CV) (a0 a1 : AV) (h : AH) : enterK Tryz.prog NN P36 c 36 [a0, a1] h = S36 c a0 a1 h := by kernel_rfl
def W36 (c : CV) (l : List AV) (h : AH) : R := match l with | [a0, a1] => S36 c a0 a1 h | _ => none
theorem W36_ok : WOk Tryz.prog 36 W36 := by
  intro c l h r e
  unfold W36 at e
  split at e
  · exact ⟨P36, by rw [S36_eq]; exact e⟩
  · cases e
/- (*quietus/interp.Interp).touch -/
def P37 : Pl := (.n none .z (.n none (.n none .z (.n none (.n none .z (.n none (.n none .z (.n none .z (.n none .z (.n (some [10]) .z .z)))) (.n none .z (.n none .z (.n none .z (.n none (.n none .z (.n none .z (.n (some [15]) .z .z))) .z)))))) .z)) .z))
def S37 (c : CV) (a0 a1 a2 a3 : AV) (h : AH) : R :=
pBox h 28 a1 fun v0 h1 =>
pFieldA v0 0 fun v2 =>
pLoad1 h1 v2 fun v3 =>
pInt .eql v3 (.int .i64 (.ofNat 8)) fun v4 =>
pCond v4 (
pFieldA v0 3 fun v5 =>
pLoad1 h1 v5 fun v6 =>
pCall c (.fn 64 [] []) [a3, v6] h1 fun v7 h8 =>
pExtract v7 0 fun v9 =>
pExtract v7 1 fun v10 =>
pInt .neq v10 (.int .i64 (.ofNat 0)) fun v11 =>
pCond v11 (
some (v10, h8)) (
pNil a0 fun v12 =>
pFieldA v12 1 fun v13 =>
pLoad1 h8 v13 fun v14 =>
pCall c (.fn 65 [] []) [v14, v9] h8 fun v15 h16 =>
pExtract v15 0 fun v17 =>
pExtract v15 1 fun v18 =>
joinC (α := AV × Unit → AH → List Nat → R) (fun s19 h20 d21 =>
pLeave d21 h20 fun h23 =>
some (s19.1, h23)) fun j22 =>
pInt .eql v18 (.int .i64 (.ofNat 0)) fun v24 =>
pCond v24 (
pNil a2 fun v25 =>
pStore h16 v25 v17 1 fun h26 =>
j22 (v18, ()) h26 []) (
j22 (v18, ()) h16 []))) (
pInt .eql v3 (.int .i64 (.ofNat 9)) fun v27 =>
pCond v27 (
pNil a2 fun v28 =>
pLoad1 h1 v28 fun v29 =>
pFieldA v0 3 fun v30 =>
pLoad1 h1 v30 fun v31 =>
pCall c (.fn 64 [] []) [v29, v31] h1 fun v32 h33 =>
pExtract v32 0 fun v34 =>
pExtract v32 1 fun v35 =>
pInt .neq v35 (.int .i64 (.ofNat 0)) fun v36 =>
pCond v36 (
some (v35, h33)) (
pNil a0 fun v37 =>
pFieldA v37 1 fun v38 =>
pLoad1 h33 v38 fun v39 =>
pCall c (.fn 66 [] []) [v39, v34, a3] h33 fun v40 h41 =>
some (v40, h41))) (
pInt .eql v3 (.int .i64 (.ofNat 10)) fun v42 =>
pCond v42 (
pInt .geq a3 (.int .u64 (.ofNat 2147483648)) fun v43 =>
pCond v43 (
some ((.int .i64 (.ofNat 3)), h1)) (
pNil a0 fun v44 =>
pFieldA v44 1 fun v45 =>
pLoad1 h1 v45 fun v46 =>
pConvI .i64 a3 fun v47 =>
pCall c (.fn 67 [] []) [v46, v47] h1 fun v48 h49 =>
pExtract v48 0 fun v50 =>
pExtract v48 1 fun v51 =>
joinC (α := AV × Unit → AH → List Nat → R) (fun s52 h53 d54 =>
pLeave d54 h53 fun h56 =>
some (s52.1, h56)) fun j55 =>
pInt .eql v51 (.int .i64 (.ofNat 0)) fun v57 =>
pCond v57 (
pConvI .u64 v50 fun v58 =>
pNil a2 fun v59 =>
pStore h49 v59 v58 1 fun h60 =>
j55 (v51, ()) h60 []) (
j55 (v51, ()) h49 []))) (
pNil a2 fun v61 =>
pLoad1 h1 v61 fun v62 =>
pInt .geq v62 (.int .u64 (.ofNat 2147483648)) fun v63 =>
pCond v63 (
some ((.int .i64 (.ofNat 2)), h1)) (
pNil a0 fun v64 =>
pFieldA v64 1 fun v65 =>
pLoad1 h1 v65 fun v66 =>
pNil a2 fun v67 =>
pLoad1 h1 v67 fun v68 =>
pConvI .i64 v68 fun v69 =>
pCall c (.fn 68 [] []) [v66, v69] h1 fun v70 h71 =>
some (v70, h71)))))
theorem S37_eq (c : CV) (a0 a1 a2 a3 : AV) (h : AH) : enterK Tryz.prog NN P37 c 37 [a0, a1, a2, a3] h = S37 c a0 a1 a2 a3 h := by kernel_rfl
def W37 (c : CV) (l : List AV) (h : AH) : R := match l with | [a0, a1, a2, a3] => S37 c a0 a1 a2 a3 h | _ => none
theorem W37_ok : WOk Tryz.prog 37 W37 := by
  intro c l h r e
  unfold W37 at e
  split at e
  · exact ⟨P37, by rw [S37_eq]; exact e⟩
  · cases e
/- (*quietus/interp.Interp).turn -/
def P38 : Pl := (.n none .z (.n none (.n none .z (.n none (.n (some [7, 6, 3, 0]) .z (.n none .z (.n (some [18, 6, 0]) .z .z))) .z)) .z))
def S38 (c : CV) (a0 a1 : AV) (h : AH) : R :=
pBox h 28 a1 fun v0 h1 =>
pFieldA v0 0 fun v2 =>
pLoad1 h1 v2 fun v3 =>
joinC (α := AV × AV × AV × AV × Unit → AH → List Nat → R) (fun s4 h5 d6 =>
pCond s4.1 (
pFieldA s4.2.2.1 0 fun v8 =>
pLoad1 h5 v8 fun v9 =>
pNil s4.2.2.2.1 fun v10 =>
pFieldA v10 15 fun v11 =>
pLoad1 h5 v11 fun v12 =>
pCall c (.fn 69 [] []) [s4.2.2.2.1, v9, v12] h5 fun v13 h14 =>
pLeave d6 h14 fun h15 =>
some (v13, h15)) (
joinC (α := AV × AV × AV × Unit → AH → List Nat → R) (fun s16 h17 d18 =>
pCond s16.1 (
pCall c (.fn 70 [] []) [s16.2.2.1] h17 fun _ h21 =>
pNil s16.2.2.1 fun v22 =>
pFieldA v22 1 fun v23 =>
pLoad1 h21 v23 fun v24 =>
pCall c (.fn 71 [] []) [v24] h21 fun v25 h26 =>
pLeave d18 h26 fun h27 =>
some (v25, h27)) (
pInt .eql s16.2.1 (.int .i64 (.ofNat 18)) fun v28 =>
pCond v28 (
pCall c (.fn 70 [] []) [s16.2.2.1] h17 fun _ h30 =>
pNil s16.2.2.1 fun v31 =>
pFieldA v31 2 fun v32 =>
pLoad1 h30 v32 fun v33 =>
pNil s16.2.2.1 fun v34 =>
pFieldA v34 15 fun v35 =>
pLoad1 h30 v35 fun v36 =>
pIdxS v33 v36 1 fun v37 =>
pLoad1 h30 v37 fun v38 =>
pInt .add v38 (.int .i64 (.ofNat 1)) fun v39 =>
pNil s16.2.2.1 fun v40 =>
pFieldA v40 16 fun v41 =>
pStore h30 v41 v39 1 fun h42 =>
pNil s16.2.2.1 fun v43 =>
pFieldA v43 1 fun v44 =>
pLoad1 h42 v44 fun v45 =>
pCall c (.fn 71 [] []) [v45] h42 fun v46 h47 =>
pLeave d18 h47 fun h48 =>
some (v46, h48)) (
pInt .eql s16.2.1 (.int .i64 (.ofNat 16)) fun v49 =>
pCond v49 (
pCall c (.fn 70 [] []) [s16.2.2.1] h17 fun v50 h51 =>
pCall c (.fn 72 [] []) [s16.2.2.1, v50] h51 fun _ h53 =>
pNil s16.2.2.1 fun v54 =>
pFieldA v54 2 fun v55 =>
pLoad1 h53 v55 fun v56 =>
pNil s16.2.2.1 fun v57 =>
pFieldA v57 15 fun v58 =>
pLoad1 h53 v58 fun v59 =>
pIdxS v56 v59 1 fun v60 =>
pLoad1 h53 v60 fun v61 =>
pInt .add v61 (.int .i64 (.ofNat 1)) fun v62 =>
pNil s16.2.2.1 fun v63 =>
pFieldA v63 16 fun v64 =>
pStore h53 v64 v62 1 fun h65 =>
pNil s16.2.2.1 fun v66 =>
pFieldA v66 1 fun v67 =>
pLoad1 h65 v67 fun v68 =>
pCall c (.fn 73 [] []) [v68] h65 fun v69 h70 =>
pLeave d18 h70 fun h71 =>
some (v69, h71)) (
pCall c (.fn 74 [] []) [s16.2.2.1] h17 fun v72 h73 =>
pLeave d18 h73 fun h74 =>
some (v72, h74))))) fun j19 =>
pInt .eql s4.2.1 (.int .i64 (.ofNat 15)) fun v75 =>
pCond v75 (
j19 (v75, s4.2.1, s4.2.2.2.1, ()) h5 d6) (
pInt .eql s4.2.1 (.int .i64 (.ofNat 19)) fun v76 =>
j19 (v76, s4.2.1, s4.2.2.2.1, ()) h5 d6))) fun j7 =>
pInt .eql v3 (.int .i64 (.ofNat 14)) fun v77 =>
pCond v77 (
j7 (v77, v3, v0, a0, ()) h1 []) (
pInt .eql v3 (.int .i64 (.ofNat 17)) fun v78 =>
j7 (v78, v3, v0, a0, ()) h1 [])
theorem S38_eq (c : CV) (a0 a1 : AV) (h : AH) : enterK Tryz.prog NN P38 c 38 [a0, a1] h = S38 c a0 a1 h := by kernel_rfl
def W38 (c : CV) (l : List AV) (h : AH) : R := match l with | [a0, a1] => S38 c a0 a1 h | _ => none
theorem W38_ok : WOk Tryz.prog 38 W38 := by
  intro c l h r e
  unfold W38 at e
  split at e
  · exact ⟨P38, by rw [S38_eq]; exact e⟩
  · cases e
/- slices.Clone[[]any,any] -/
def P39 : Pl := .z
def S39 (_ : CV) (a0 : AV) (h : AH) : R :=
pEq .slc false a0 .nils fun v0 =>
pCond v0 (
some (.nils, h)) (
pBuildS h 20 [.nili] 0 [] fun v1 h2 =>
pAppend h2 20 1 v1 a0 fun v3 h4 =>
some (v3, h4))
theorem S39_eq (c : CV) (a0 : AV) (h : AH) : enterK Tryz.prog NN P39 c 39 [a0] h = S39 c a0 h := by kernel_rfl
def W39 (c : CV) (l : List AV) (h : AH) : R := match l with | [a0] => S39 c a0 h | _ => none
theorem W39_ok : WOk Tryz.prog 39 W39 := by
  intro c l h r e
  unfold W39 at e
  split at e
  · exact ⟨P39, by rw [S39_eq]; exact e⟩
  · cases e
/- strconv.FormatUint -/
def P40 : Pl := .z
def S40 (c : CV) (a0 a1 : AV) (h : AH) : R :=
pCall c (.fn 75 [] []) [a0, a1] h fun v0 h1 =>
some (v0, h1)
theorem S40_eq (c : CV) (a0 a1 : AV) (h : AH) : enterK Tryz.prog NN P40 c 40 [a0, a1] h = S40 c a0 a1 h := by kernel_rfl
def W40 (c : CV) (l : List AV) (h : AH) : R := match l with | [a0, a1] => S40 c a0 a1 h | _ => none
theorem W40_ok : WOk Tryz.prog 40 W40 := by
  intro c l h r e
  unfold W40 at e
  split at e
  · exact ⟨P40, by rw [S40_eq]; exact e⟩
  · cases e
/- (*strings.Builder).Grow -/
def P41 : Pl := (.n none .z (.n (some [1, 0]) .z (.n none (.r [[21, 1, 0]]) .z)))
def S41 (c : CV) (a0 a1 : AV) (h : AH) : R :=
pCall c (.fn 76 [] []) [a0] h fun _ h1 =>
joinC (α := AV × AV × Unit → AH → List Nat → R) (fun s2 h3 d4 =>
joinC (α := AV × AV × AV × Unit → AH → R) (fun s6 h7 =>
pCond s6.1 (
pCall c (.fn 77 [] []) [s6.2.2.1, s6.2.1] h7 fun _ h10 =>
pLeave d4 h10 fun h11 =>
some ((.tup []), h11)) (
pLeave d4 h7 fun h12 =>
some ((.tup []), h12))) fun _ =>
pNil s2.2.1 fun v13 =>
pFieldA v13 1 fun v14 =>
pLoad1 h3 v14 fun _ =>
none /- op -/) fun j5 =>
pInt .lss a1 (.int .i64 (.ofNat 0)) fun v16 =>
pCond v16 (
none /- op -/) (
j5 (a1, a0, ()) h1 [])
theorem S41_eq (c : CV) (a0 a1 : AV) (h : AH) : enterK Tryz.prog NN P41 c 41 [a0, a1] h = S41 c a0 a1 h := by kernel_rfl
def W41 (c : CV) (l : List AV) (h : AH) : R := match l with | [a0, a1] => S41 c a0 a1 h | _ => none
theorem W41_ok : WOk Tryz.prog 41 W41 := by
  intro c l h r e
  unfold W41 at e
  split at e
  · exact ⟨P41, by rw [S41_eq]; exact e⟩
  · cases e
/- (*strings.Builder).WriteString -/
def P42 : Pl := .z
def S42 (c : CV) (a0 a1 : AV) (h : AH) : R :=
pCall c (.fn 76 [] []) [a0] h fun _ h1 =>
pNil a0 fun v2 =>
pFieldA v2 1 fun v3 =>
pLoad1 h1 v3 fun v4 =>
pAppend h1 5 1 v4 a1 fun v5 h6 =>
pNil a0 fun v7 =>
pFieldA v7 1 fun v8 =>
pStore h6 v8 v5 1 fun h9 =>
pLenStr a1 fun v10 =>
some ((.tup [v10, .nili]), h9)
theorem S42_eq (c : CV) (a0 a1 : AV) (h : AH) : enterK Tryz.prog NN P42 c 42 [a0, a1] h = S42 c a0 a1 h := by kernel_rfl
def W42 (c : CV) (l : List AV) (h : AH) : R := match l with | [a0, a1] => S42 c a0 a1 h | _ => none
theorem W42_ok : WOk Tryz.prog 42 W42 := by
  intro c l h r e
  unfold W42 at e
  split at e
  · exact ⟨P42, by rw [S42_eq]; exact e⟩
  · cases e
/- (*strings.Builder).String -/
def P43 : Pl := (.n none .z (.n none (.r [[2]]) .z))
def S43 (_ : CV) (a0 : AV) (h : AH) : R :=
joinC (α := AV × Unit → AH → R) (fun s0 h1 =>
some (s0.1, h1)) fun _ =>
pNil a0 fun v3 =>
pFieldA v3 1 fun v4 =>
pLoad1 h v4 fun _ =>
none /- op -/
theorem S43_eq (c : CV) (a0 : AV) (h : AH) : enterK Tryz.prog NN P43 c 43 [a0] h = S43 c a0 h := by kernel_rfl
def W43 (c : CV) (l : List AV) (h : AH) : R := match l with | [a0] => S43 c a0 h | _ => none
theorem W43_ok : WOk Tryz.prog 43 W43 := by
  intro c l h r e
  unfold W43 at e
  split at e
  · exact ⟨P43, by rw [S43_eq]; exact e⟩
  · cases e
/- quietus/code.May -/
def P44 : Pl := (.n none .z (.n none .z (.n none (.r [[21, 17, 5, 4, 1], [27, 23, 5, 1], [33, 29, 1], [39, 35, 1], [42, 39, 35], [43, 35]]) .z)))
def S44 (c : CV) (a0 : AV) (h : AH) : R :=
pBox h 28 a0 fun v0 h1 =>
pFieldA v0 0 fun v2 =>
pLoad1 h1 v2 fun v3 =>
pCall c (.fn 78 [] []) [v3] h1 fun v4 h5 =>
pExtract v4 0 fun v6 =>
pExtract v4 1 fun v7 =>
pExtract v4 2 fun v8 =>
pBox h5 128 (.agg [(.int .i64 (.ofNat 0)), (.int .i64 (.ofNat 0))]) fun v9 h10 =>
pBox h10 128 (.agg [(.int .i64 (.ofNat 0)), (.int .i64 (.ofNat 0))]) fun v11 h12 =>
pBox h12 128 (.agg [(.int .i64 (.ofNat 0)), (.int .i64 (.ofNat 0))]) fun v13 h14 =>
pStore h14 v9 v6 2 fun h15 =>
pStore h15 v11 v7 2 fun h16 =>
pStore h16 v13 v8 2 fun h17 =>
pFieldA v0 0 fun v18 =>
pLoad1 h17 v18 fun v19 =>
pCall c (.fn 79 [] []) [v19] h17 fun v20 h21 =>
pStr .neq v20 (.str []) fun v22 =>
joinC (α := AV × AV × AV × AV × AV × Unit → AH → R) (fun s23 h24 =>
pPick s23.2.1 s23.1 (.bool false) fun v26 =>
joinC (α := AV × AV × AV × AV × Unit → AH → R) (fun s27 h28 =>
pPick s27.2.1 s27.1 (.bool false) fun v30 =>
joinC (α := AV × AV × AV × Unit → AH → R) (fun s31 h32 =>
pPick s31.2.1 s31.1 (.bool false) fun v34 =>
joinC (α := AV × AV × AV × Unit → AH → R) (fun s35 h36 =>
joinC (α := AV × AV × AV × Unit → AH → R) (fun s38 h39 =>
joinC (α := AV × AV × Unit → AH → R) (fun s41 h42 =>
pPick s41.2.1 s41.1 (.bool false) fun v44 =>
some (v44, h42)) fun j43 =>
pWant s38.2.2.1 true (
pPick s38.2.1 (.bool true) s38.1 fun v45 =>
j43 (v45, s38.2.2.1, ()) h39) (
j43 (.undef, s38.2.2.1, ()) h39)) fun j40 =>
pWant s35.1 false (
pFieldA s35.2.2.1 0 fun v46 =>
pLoad1 h36 v46 fun v47 =>
pInt .eql v47 (.int .i64 (.ofNat 1)) fun v48 =>
j40 (v48, s35.1, s35.2.1, ()) h36) (
j40 (.undef, s35.1, s35.2.1, ()) h36)) fun j37 =>
pWant v34 true (
pFieldA s31.2.2.1 4 fun v49 =>
pLoad1 h32 v49 fun v50 =>
pInt .eql v50 (.int .u64 (.ofNat 0)) fun v51 =>
j37 (v51, v34, s31.2.2.1, ()) h32) (
j37 (.undef, v34, s31.2.2.1, ()) h32)) fun j33 =>
pWant v30 true (
pLoadN h28 s27.2.2.1 2 fun v52 =>
pFieldA s27.2.2.2.1 3 fun v53 =>
pLoad1 h28 v53 fun v54 =>
pCall c (.fn 80 [] []) [v52, v54] h28 fun v55 h56 =>
j33 (v55, v30, s27.2.2.2.1, ()) h56) (
j33 (.undef, v30, s27.2.2.2.1, ()) h28)) fun j29 =>
pWant v26 true (
pLoadN h24 s23.2.2.2.1 2 fun v57 =>
pFieldA s23.2.2.2.2.1 2 fun v58 =>
pLoad1 h24 v58 fun v59 =>
pCall c (.fn 80 [] []) [v57, v59] h24 fun v60 h61 =>
j29 (v60, v26, s23.2.2.1, s23.2.2.2.2.1, ()) h61) (
j29 (.undef, v26, s23.2.2.1, s23.2.2.2.2.1, ()) h24)) fun j25 =>
pWant v22 true (
pLoadN h21 v9 2 fun v62 =>
pFieldA v0 1 fun v63 =>
pLoad1 h21 v63 fun v64 =>
pCall c (.fn 80 [] []) [v62, v64] h21 fun v65 h66 =>
j25 (v65, v22, v13, v11, v0, ()) h66) (
j25 (.undef, v22, v13, v11, v0, ()) h21)
theorem S44_eq (c : CV) (a0 : AV) (h : AH) : enterK Tryz.prog NN P44 c 44 [a0] h = S44 c a0 h := by kernel_rfl
def W44 (c : CV) (l : List AV) (h : AH) : R := match l with | [a0] => S44 c a0 h | _ => none
theorem W44_ok : WOk Tryz.prog 44 W44 := by
  intro c l h r e
  unfold W44 at e
  split at e
  · exact ⟨P44, by rw [S44_eq]; exact e⟩
  · cases e
/- (quietus/check.stack).op -/
def P45 : Pl := (.n none .z (.n none .z (.n none (.r [[4]]) .z)))
def S45 (c : CV) (a0 a1 : AV) (h : AH) : R :=
pBox h 31 a1 fun v0 h1 =>
pLenS a0 fun v2 =>
pInt .eql v2 (.int .i64 (.ofNat 0)) fun v3 =>
pCond v3 (
some ((.int .i64 (.ofNat 0)), h1)) (
joinC (α := AV × Unit → AH → R) (fun s4 h5 =>
some (s4.1, h5)) fun j6 =>
pFieldA v0 0 fun v7 =>
pLoad1 h1 v7 fun v8 =>
pCall c (.fn 29 [] []) [a0] h1 fun v9 h10 =>
pIdxS v8 v9 5 fun v11 =>
pFieldA v11 0 fun v12 =>
pLoad1 h10 v12 fun v13 =>
pChk v7 none v8 h1 h10 h1.nx <|
j6 (v13, ()) h10)
theorem S45_eq (c : CV) (a0 a1 : AV) (h : AH) : enterK Tryz.prog NN P45 c 45 [a0, a1] h = S45 c a0 a1 h := by kernel_rfl
def W45 (c : CV) (l : List AV) (h : AH) : R := match l with | [a0, a1] => S45 c a0 a1 h | _ => none
theorem W45_ok : WOk Tryz.prog 45 W45 := by
  intro c l h r e
  unfold W45 at e
  split at e
  · exact ⟨P45, by rw [S45_eq]; exact e⟩
  · cases e
/- quietus/check.begins -/
def P46 : Pl := (.n none .z (.n none (.r [[7, 5]]) .z))
def S46 (_ : CV) (a0 : AV) (h : AH) : R :=
pInt .eql a0 (.int .i64 (.ofNat 14)) fun v0 =>
joinC (α := AV × AV × Unit → AH → R) (fun s1 h2 =>
pPick s1.2.1 (.bool true) s1.1 fun v4 =>
some (v4, h2)) fun j3 =>
pWant v0 false (
pInt .eql a0 (.int .i64 (.ofNat 17)) fun v5 =>
j3 (v5, v0, ()) h) (
j3 (.undef, v0, ()) h)
theorem S46_eq (c : CV) (a0 : AV) (h : AH) : enterK Tryz.prog NN P46 c 46 [a0] h = S46 c a0 h := by kernel_rfl
def W46 (c : CV) (l : List AV) (h : AH) : R := match l with | [a0] => S46 c a0 h | _ => none
theorem W46_ok : WOk Tryz.prog 46 W46 := by
  intro c l h r e
  unfold W46 at e
  split at e
  · exact ⟨P46, by rw [S46_eq]; exact e⟩
  · cases e
/- quietus/code.Jumps -/
def P47 : Pl := (.n none .z (.n none (.r [[7, 5]]) .z))
def S47 (_ : CV) (a0 : AV) (h : AH) : R :=
pInt .eql a0 (.int .i64 (.ofNat 12)) fun v0 =>
joinC (α := AV × AV × Unit → AH → R) (fun s1 h2 =>
pPick s1.2.1 (.bool true) s1.1 fun v4 =>
some (v4, h2)) fun j3 =>
pWant v0 false (
pInt .eql a0 (.int .i64 (.ofNat 13)) fun v5 =>
j3 (v5, v0, ()) h) (
j3 (.undef, v0, ()) h)
theorem S47_eq (c : CV) (a0 : AV) (h : AH) : enterK Tryz.prog NN P47 c 47 [a0] h = S47 c a0 h := by kernel_rfl
def W47 (c : CV) (l : List AV) (h : AH) : R := match l with | [a0] => S47 c a0 h | _ => none
theorem W47_ok : WOk Tryz.prog 47 W47 := by
  intro c l h r e
  unfold W47 at e
  split at e
  · exact ⟨P47, by rw [S47_eq]; exact e⟩
  · cases e
/- quietus/writes.New -/
def P48 : Pl := .z
def S48 (_ : CV) (a0 : AV) (h : AH) : R :=
pMM false [a0, (.int .i64 (.ofNat 96))] fun v0 =>
pMM true [(.int .i64 (.ofNat 0)), v0] fun v1 =>
pBuild [(.int .i64 (.ofNat 0)), .nils] [(0, 1, v1)] fun v2 =>
pBox h 133 v2 fun v3 h4 =>
some (v3, h4)
theorem S48_eq (c : CV) (a0 : AV) (h : AH) : enterK Tryz.prog NN P48 c 48 [a0] h = S48 c a0 h := by kernel_rfl
def W48 (c : CV) (l : List AV) (h : AH) : R := match l with | [a0] => S48 c a0 h | _ => none
theorem W48_ok : WOk Tryz.prog 48 W48 := by
  intro c l h r e
  unfold W48 at e
  split at e
  · exact ⟨P48, by rw [S48_eq]; exact e⟩
  · cases e
/- (*quietus/slate.Slate).add -/
def P49 : Pl := .z
def S49 (_ : CV) (a0 a1 : AV) (h : AH) : R :=
pNil a0 fun v0 =>
pFieldA v0 0 fun v1 =>
pLoad1 h v1 fun v2 =>
pLenS v2 fun v3 =>
pInt .geq v3 (.int .i64 (.ofNat 16)) fun v4 =>
pCond v4 (
some ((.bool false), h)) (
pNil a0 fun v5 =>
pFieldA v5 0 fun v6 =>
pLoad1 h v6 fun v7 =>
pBuildS h 20 [.nili] 1 [(0, 1, a1)] fun v8 h9 =>
pAppend h9 20 1 v7 v8 fun v10 h11 =>
pNil a0 fun v12 =>
pFieldA v12 0 fun v13 =>
pStore h11 v13 v10 1 fun h14 =>
some ((.bool true), h14))
theorem S49_eq (c : CV) (a0 a1 : AV) (h : AH) : enterK Tryz.prog NN P49 c 49 [a0, a1] h = S49 c a0 a1 h := by kernel_rfl
def W49 (c : CV) (l : List AV) (h : AH) : R := match l with | [a0, a1] => S49 c a0 a1 h | _ => none
theorem W49_ok : WOk Tryz.prog 49 W49 := by
  intro c l h r e
  unfold W49 at e
  split at e
  · exact ⟨P49, by rw [S49_eq]; exact e⟩
  · cases e
/- (*quietus/interp.Interp).truth -/
def P50 : Pl := .z
def S50 (_ : CV) (a0 a1 : AV) (h : AH) : R :=
pBox h 24 a0 fun v0 h1 =>
pBox h1 28 a1 fun v2 h3 =>
some ((.fn 81 [] [v0, v2]), h3)
theorem S50_eq (c : CV) (a0 a1 : AV) (h : AH) : enterK Tryz.prog NN P50 c 50 [a0, a1] h = S50 c a0 a1 h := by kernel_rfl
def W50 (c : CV) (l : List AV) (h : AH) : R := match l with | [a0, a1] => S50 c a0 a1 h | _ => none
theorem W50_ok : WOk Tryz.prog 50 W50 := by
  intro c l h r e
  unfold W50 at e
  split at e
  · exact ⟨P50, by rw [S50_eq]; exact e⟩
  · cases e
/- quietus/list.Add -/
def P51 : Pl := (.n none .z (.n none .z (.n none .z (.n none (.r [[17, 15, 9]]) .z))))
def S51 (c : CV) (a0 a1 a2 : AV) (h : AH) : R :=
pBox h 3 a1 fun v0 h1 =>
pBox h1 26 a2 fun v2 h3 =>
pBox h3 4 (.bool false) fun v4 h5 =>
pStore h5 v4 (.bool false) 1 fun h6 =>
pLoad1 h6 v0 fun v7 =>
pCall c (.fn 83 [] []) [a0, v7, (.fn 84 [] [v0, v2, v4])] h6 fun v8 h9 =>
pLoad1 h9 v4 fun v10 =>
joinC (α := AV × AV × AV × Unit → AH → R) (fun s11 h12 =>
pPick s11.2.1 s11.1 (.bool false) fun v14 =>
some ((.tup [v14, s11.2.2.1]), h12)) fun j13 =>
pWant v10 true (
pInt .eql v8 (.int .i64 (.ofNat 0)) fun v15 =>
j13 (v15, v10, v8, ()) h9) (
j13 (.undef, v10, v8, ()) h9)
theorem S51_eq (c : CV) (a0 a1 a2 : AV) (h : AH) : enterK Tryz.prog NN P51 c 51 [a0, a1, a2] h = S51 c a0 a1 a2 h := by kernel_rfl
def W51 (c : CV) (l : List AV) (h : AH) : R := match l with | [a0, a1, a2] => S51 c a0 a1 a2 h | _ => none
theorem W51_ok : WOk Tryz.prog 51 W51 := by
  intro c l h r e
  unfold W51 at e
  split at e
  · exact ⟨P51, by rw [S51_eq]; exact e⟩
  · cases e
/- quietus/list.Cut -/
def P52 : Pl := (.n none .z (.n none .z (.n none .z (.n none (.r [[17, 15, 9]]) .z))))
def S52 (c : CV) (a0 a1 a2 : AV) (h : AH) : R :=
pBox h 3 a1 fun v0 h1 =>
pBox h1 26 a2 fun v2 h3 =>
pBox h3 4 (.bool false) fun v4 h5 =>
pStore h5 v4 (.bool false) 1 fun h6 =>
pLoad1 h6 v0 fun v7 =>
pCall c (.fn 83 [] []) [a0, v7, (.fn 91 [] [v0, v2, v4])] h6 fun v8 h9 =>
pLoad1 h9 v4 fun v10 =>
joinC (α := AV × AV × AV × Unit → AH → R) (fun s11 h12 =>
pPick s11.2.1 s11.1 (.bool false) fun v14 =>
some ((.tup [v14, s11.2.2.1]), h12)) fun j13 =>
pWant v10 true (
pInt .eql v8 (.int .i64 (.ofNat 0)) fun v15 =>
j13 (v15, v10, v8, ()) h9) (
j13 (.undef, v10, v8, ()) h9)
theorem S52_eq (c : CV) (a0 a1 a2 : AV) (h : AH) : enterK Tryz.prog NN P52 c 52 [a0, a1, a2] h = S52 c a0 a1 a2 h := by kernel_rfl
def W52 (c : CV) (l : List AV) (h : AH) : R := match l with | [a0, a1, a2] => S52 c a0 a1 a2 h | _ => none
theorem W52_ok : WOk Tryz.prog 52 W52 := by
  intro c l h r e
  unfold W52 at e
  split at e
  · exact ⟨P52, by rw [S52_eq]; exact e⟩
  · cases e
/- quietus/list.Has -/
def P53 : Pl := (.n none .z (.n none .z (.n none .z (.n none (.r [[17, 15, 9]]) .z))))
def S53 (c : CV) (a0 a1 a2 : AV) (h : AH) : R :=
pBox h 3 a1 fun v0 h1 =>
pBox h1 26 a2 fun v2 h3 =>
pBox h3 4 (.bool false) fun v4 h5 =>
pStore h5 v4 (.bool false) 1 fun h6 =>
pLoad1 h6 v0 fun v7 =>
pCall c (.fn 83 [] []) [a0, v7, (.fn 94 [] [v0, v2, v4])] h6 fun v8 h9 =>
pLoad1 h9 v4 fun v10 =>
joinC (α := AV × AV × AV × Unit → AH → R) (fun s11 h12 =>
pPick s11.2.1 s11.1 (.bool false) fun v14 =>
some ((.tup [v14, s11.2.2.1]), h12)) fun j13 =>
pWant v10 true (
pInt .eql v8 (.int .i64 (.ofNat 0)) fun v15 =>
j13 (v15, v10, v8, ()) h9) (
j13 (.undef, v10, v8, ()) h9)
theorem S53_eq (c : CV) (a0 a1 a2 : AV) (h : AH) : enterK Tryz.prog NN P53 c 53 [a0, a1, a2] h = S53 c a0 a1 a2 h := by kernel_rfl
def W53 (c : CV) (l : List AV) (h : AH) : R := match l with | [a0, a1, a2] => S53 c a0 a1 a2 h | _ => none
theorem W53_ok : WOk Tryz.prog 53 W53 := by
  intro c l h r e
  unfold W53 at e
  split at e
  · exact ⟨P53, by rw [S53_eq]; exact e⟩
  · cases e
/- quietus/table.Put -/
def P54 : Pl := (.n none .z (.n none .z (.n none .z (.n none (.r [[19, 17, 11]]) .z))))
def S54 (c : CV) (a0 a1 a2 a3 : AV) (h : AH) : R :=
pBox h 3 a1 fun v0 h1 =>
pBox h1 26 a2 fun v2 h3 =>
pBox h3 26 a3 fun v4 h5 =>
pBox h5 4 (.bool false) fun v6 h7 =>
pStore h7 v6 (.bool false) 1 fun h8 =>
pLoad1 h8 v0 fun v9 =>
pCall c (.fn 83 [] []) [a0, v9, (.fn 95 [] [v0, v2, v4, v6])] h8 fun v10 h11 =>
pLoad1 h11 v6 fun v12 =>
joinC (α := AV × AV × AV × Unit → AH → R) (fun s13 h14 =>
pPick s13.2.1 s13.1 (.bool false) fun v16 =>
some ((.tup [v16, s13.2.2.1]), h14)) fun j15 =>
pWant v12 true (
pInt .eql v10 (.int .i64 (.ofNat 0)) fun v17 =>
j15 (v17, v12, v10, ()) h11) (
j15 (.undef, v12, v10, ()) h11)
theorem S54_eq (c : CV) (a0 a1 a2 a3 : AV) (h : AH) : enterK Tryz.prog NN P54 c 54 [a0, a1, a2, a3] h = S54 c a0 a1 a2 a3 h := by kernel_rfl
def W54 (c : CV) (l : List AV) (h : AH) : R := match l with | [a0, a1, a2, a3] => S54 c a0 a1 a2 a3 h | _ => none
theorem W54_ok : WOk Tryz.prog 54 W54 := by
  intro c l h r e
  unfold W54 at e
  split at e
  · exact ⟨P54, by rw [S54_eq]; exact e⟩
  · cases e
/- (*quietus/interp.Interp).number -/
def P55 : Pl := .z
def S55 (_ : CV) (a0 a1 : AV) (h : AH) : R :=
pBox h 24 a0 fun v0 h1 =>
pBox h1 28 a1 fun v2 h3 =>
some ((.fn 100 [] [v0, v2]), h3)
theorem S55_eq (c : CV) (a0 a1 : AV) (h : AH) : enterK Tryz.prog NN P55 c 55 [a0, a1] h = S55 c a0 a1 h := by kernel_rfl
def W55 (c : CV) (l : List AV) (h : AH) : R := match l with | [a0, a1] => S55 c a0 a1 h | _ => none
theorem W55_ok : WOk Tryz.prog 55 W55 := by
  intro c l h r e
  unfold W55 at e
  split at e
  · exact ⟨P55, by rw [S55_eq]; exact e⟩
  · cases e
/- quietus/table.Get -/
def P56 : Pl := .z
def S56 (c : CV) (a0 a1 a2 : AV) (h : AH) : R :=
pBox h 3 a1 fun v0 h1 =>
pBox h1 26 a2 fun v2 h3 =>
pBox h3 26 (.int .u64 (.ofNat 0)) fun v4 h5 =>
pBox h5 4 (.bool false) fun v6 h7 =>
pStore h7 v4 (.int .u64 (.ofNat 0)) 1 fun h8 =>
pStore h8 v6 (.bool false) 1 fun h9 =>
pLoad1 h9 v0 fun v10 =>
pCall c (.fn 83 [] []) [a0, v10, (.fn 102 [] [v0, v2, v4, v6])] h9 fun v11 h12 =>
pInt .neq v11 (.int .i64 (.ofNat 0)) fun v13 =>
pCond v13 (
some ((.tup [(.int .u64 (.ofNat 0)), (.bool false), v11]), h12)) (
pLoad1 h12 v4 fun v14 =>
pLoad1 h12 v6 fun v15 =>
some ((.tup [v14, v15, (.int .i64 (.ofNat 0))]), h12))
theorem S56_eq (c : CV) (a0 a1 a2 : AV) (h : AH) : enterK Tryz.prog NN P56 c 56 [a0, a1, a2] h = S56 c a0 a1 a2 h := by kernel_rfl
def W56 (c : CV) (l : List AV) (h : AH) : R := match l with | [a0, a1, a2] => S56 c a0 a1 a2 h | _ => none
theorem W56_ok : WOk Tryz.prog 56 W56 := by
  intro c l h r e
  unfold W56 at e
  split at e
  · exact ⟨P56, by rw [S56_eq]; exact e⟩
  · cases e
/- quietus/table.Del -/
def P57 : Pl := (.n none .z (.n none .z (.n none .z (.n none (.r [[17, 15, 9]]) .z))))
def S57 (c : CV) (a0 a1 a2 : AV) (h : AH) : R :=
pBox h 3 a1 fun v0 h1 =>
pBox h1 26 a2 fun v2 h3 =>
pBox h3 4 (.bool false) fun v4 h5 =>
pStore h5 v4 (.bool false) 1 fun h6 =>
pLoad1 h6 v0 fun v7 =>
pCall c (.fn 83 [] []) [a0, v7, (.fn 103 [] [v0, v2, v4])] h6 fun v8 h9 =>
pLoad1 h9 v4 fun v10 =>
joinC (α := AV × AV × AV × Unit → AH → R) (fun s11 h12 =>
pPick s11.2.1 s11.1 (.bool false) fun v14 =>
some ((.tup [v14, s11.2.2.1]), h12)) fun j13 =>
pWant v10 true (
pInt .eql v8 (.int .i64 (.ofNat 0)) fun v15 =>
j13 (v15, v10, v8, ()) h9) (
j13 (.undef, v10, v8, ()) h9)
theorem S57_eq (c : CV) (a0 a1 a2 : AV) (h : AH) : enterK Tryz.prog NN P57 c 57 [a0, a1, a2] h = S57 c a0 a1 a2 h := by kernel_rfl
def W57 (c : CV) (l : List AV) (h : AH) : R := match l with | [a0, a1, a2] => S57 c a0 a1 a2 h | _ => none
theorem W57_ok : WOk Tryz.prog 57 W57 := by
  intro c l h r e
  unfold W57 at e
  split at e
  · exact ⟨P57, by rw [S57_eq]; exact e⟩
  · cases e
/- (*quietus/interp.Interp).push -/
def P58 : Pl := .z
def S58 (c : CV) (a0 a1 a2 : AV) (h : AH) : R :=
pNil a0 fun v0 =>
pFieldA v0 1 fun v1 =>
pLoad1 h v1 fun v2 =>
pCall c (.fn 104 [] []) [v2, a1, a2] h fun v3 h4 =>
pInt .neq v3 (.int .i64 (.ofNat 0)) fun v5 =>
pCond v5 (
some (v3, h4)) (
pNil a0 fun v6 =>
pFieldA v6 14 fun v7 =>
pLoad1 h4 v7 fun v8 =>
pCall c (.fn 101 [] []) [v8] h4 fun v9 h10 =>
pUn .not v9 fun v11 =>
pCond v11 (
some ((.int .i64 (.ofNat 5)), h10)) (
some ((.int .i64 (.ofNat 0)), h10)))
theorem S58_eq (c : CV) (a0 a1 a2 : AV) (h : AH) : enterK Tryz.prog NN P58 c 58 [a0, a1, a2] h = S58 c a0 a1 a2 h := by kernel_rfl
def W58 (c : CV) (l : List AV) (h : AH) : R := match l with | [a0, a1, a2] => S58 c a0 a1 a2 h | _ => none
theorem W58_ok : WOk Tryz.prog 58 W58 := by
  intro c l h r e
  unfold W58 at e
  split at e
  · exact ⟨P58, by rw [S58_eq]; exact e⟩
  · cases e
/- (*quietus/interp.Interp).take -/
def P59 : Pl := (.n none .z (.n none .z (.n none (.n none (.r [[24, 22, 9, 8, 7, 4, 0]]) .z) .z)))
def S59 (c : CV) (a0 a1 a2 : AV) (h : AH) : R :=
pBox h 28 a1 fun v0 h1 =>
pNil a0 fun v2 =>
pFieldA v2 1 fun v3 =>
pLoad1 h1 v3 fun v4 =>
pCall c (.fn 105 [] []) [v4, a2] h1 fun v5 h6 =>
pExtract v5 0 fun v7 =>
pExtract v5 1 fun v8 =>
pExtract v5 2 fun v9 =>
pInt .eql v9 (.int .i64 (.ofNat 0)) fun v10 =>
joinC (α := AV × AV × AV × AV × AV × AV × AV × Unit → AH → R) (fun s11 h12 =>
pPick s11.2.1 s11.1 (.bool false) fun v14 =>
pCond v14 (
pCall c (.fn 74 [] []) [s11.2.2.2.2.2.2.1] h12 fun v15 h16 =>
some (v15, h16)) (
pLoadN h12 s11.2.2.2.2.2.1 5 fun v17 =>
pCall c (.fn 55 [] []) [s11.2.2.2.2.2.2.1, v17] h12 fun v18 h19 =>
pCall c v18 [s11.2.2.2.2.1, s11.2.2.2.1, s11.2.2.1] h19 fun v20 h21 =>
some (v20, h21))) fun j13 =>
pWant v10 true (
pUn .not v8 fun v22 =>
j13 (v22, v10, v9, v8, v7, v0, a0, ()) h6) (
j13 (.undef, v10, v9, v8, v7, v0, a0, ()) h6)
theorem S59_eq (c : CV) (a0 a1 a2 : AV) (h : AH) : enterK Tryz.prog NN P59 c 59 [a0, a1, a2] h = S59 c a0 a1 a2 h := by kernel_rfl
def W59 (c : CV) (l : List AV) (h : AH) : R := match l with | [a0, a1, a2] => S59 c a0 a1 a2 h | _ => none
theorem W59_ok : WOk Tryz.prog 59 W59 := by
  intro c l h r e
  unfold W59 at e
  split at e
  · exact ⟨P59, by rw [S59_eq]; exact e⟩
  · cases e
/- quietus/tree.Put -/
def P60 : Pl := (.n none .z (.n none .z (.n none .z (.n none (.r [[19, 17, 11]]) .z))))
def S60 (c : CV) (a0 a1 a2 a3 : AV) (h : AH) : R :=
pBox h 3 a1 fun v0 h1 =>
pBox h1 26 a2 fun v2 h3 =>
pBox h3 26 a3 fun v4 h5 =>
pBox h5 4 (.bool false) fun v6 h7 =>
pStore h7 v6 (.bool false) 1 fun h8 =>
pLoad1 h8 v0 fun v9 =>
pCall c (.fn 83 [] []) [a0, v9, (.fn 106 [] [v0, v2, v4, v6])] h8 fun v10 h11 =>
pLoad1 h11 v6 fun v12 =>
joinC (α := AV × AV × AV × Unit → AH → R) (fun s13 h14 =>
pPick s13.2.1 s13.1 (.bool false) fun v16 =>
some ((.tup [v16, s13.2.2.1]), h14)) fun j15 =>
pWant v12 true (
pInt .eql v10 (.int .i64 (.ofNat 0)) fun v17 =>
j15 (v17, v12, v10, ()) h11) (
j15 (.undef, v12, v10, ()) h11)
theorem S60_eq (c : CV) (a0 a1 a2 a3 : AV) (h : AH) : enterK Tryz.prog NN P60 c 60 [a0, a1, a2, a3] h = S60 c a0 a1 a2 a3 h := by kernel_rfl
def W60 (c : CV) (l : List AV) (h : AH) : R := match l with | [a0, a1, a2, a3] => S60 c a0 a1 a2 a3 h | _ => none
theorem W60_ok : WOk Tryz.prog 60 W60 := by
  intro c l h r e
  unfold W60 at e
  split at e
  · exact ⟨P60, by rw [S60_eq]; exact e⟩
  · cases e
/- quietus/tree.Get -/
def P61 : Pl := .z
def S61 (c : CV) (a0 a1 a2 : AV) (h : AH) : R :=
pBox h 3 a1 fun v0 h1 =>
pBox h1 26 a2 fun v2 h3 =>
pBox h3 26 (.int .u64 (.ofNat 0)) fun v4 h5 =>
pBox h5 4 (.bool false) fun v6 h7 =>
pStore h7 v4 (.int .u64 (.ofNat 0)) 1 fun h8 =>
pStore h8 v6 (.bool false) 1 fun h9 =>
pLoad1 h9 v0 fun v10 =>
pCall c (.fn 83 [] []) [a0, v10, (.fn 110 [] [v0, v2, v4, v6])] h9 fun v11 h12 =>
pInt .neq v11 (.int .i64 (.ofNat 0)) fun v13 =>
pCond v13 (
some ((.tup [(.int .u64 (.ofNat 0)), (.bool false), v11]), h12)) (
pLoad1 h12 v4 fun v14 =>
pLoad1 h12 v6 fun v15 =>
some ((.tup [v14, v15, (.int .i64 (.ofNat 0))]), h12))
theorem S61_eq (c : CV) (a0 a1 a2 : AV) (h : AH) : enterK Tryz.prog NN P61 c 61 [a0, a1, a2] h = S61 c a0 a1 a2 h := by kernel_rfl
def W61 (c : CV) (l : List AV) (h : AH) : R := match l with | [a0, a1, a2] => S61 c a0 a1 a2 h | _ => none
theorem W61_ok : WOk Tryz.prog 61 W61 := by
  intro c l h r e
  unfold W61 at e
  split at e
  · exact ⟨P61, by rw [S61_eq]; exact e⟩
  · cases e
/- quietus/tree.Del -/
def P62 : Pl := (.n none .z (.n none .z (.n none .z (.n none (.r [[17, 15, 9]]) .z))))
def S62 (c : CV) (a0 a1 a2 : AV) (h : AH) : R :=
pBox h 3 a1 fun v0 h1 =>
pBox h1 26 a2 fun v2 h3 =>
pBox h3 4 (.bool false) fun v4 h5 =>
pStore h5 v4 (.bool false) 1 fun h6 =>
pLoad1 h6 v0 fun v7 =>
pCall c (.fn 83 [] []) [a0, v7, (.fn 111 [] [v0, v2, v4])] h6 fun v8 h9 =>
pLoad1 h9 v4 fun v10 =>
joinC (α := AV × AV × AV × Unit → AH → R) (fun s11 h12 =>
pPick s11.2.1 s11.1 (.bool false) fun v14 =>
some ((.tup [v14, s11.2.2.1]), h12)) fun j13 =>
pWant v10 true (
pInt .eql v8 (.int .i64 (.ofNat 0)) fun v15 =>
j13 (v15, v10, v8, ()) h9) (
j13 (.undef, v10, v8, ()) h9)
theorem S62_eq (c : CV) (a0 a1 a2 : AV) (h : AH) : enterK Tryz.prog NN P62 c 62 [a0, a1, a2] h = S62 c a0 a1 a2 h := by kernel_rfl
def W62 (c : CV) (l : List AV) (h : AH) : R := match l with | [a0, a1, a2] => S62 c a0 a1 a2 h | _ => none
theorem W62_ok : WOk Tryz.prog 62 W62 := by
  intro c l h r e
  unfold W62 at e
  split at e
  · exact ⟨P62, by rw [S62_eq]; exact e⟩
  · cases e
/- quietus/tree.Range -/
def P63 : Pl := .z
def S63 (c : CV) (a0 a1 a2 a3 : AV) (h : AH) : R :=
pBox h 3 a1 fun v0 h1 =>
pBox h1 26 a2 fun v2 h3 =>
pBox h3 26 a3 fun v4 h5 =>
pBox h5 113 .nils fun v6 h7 =>
pLoad1 h7 v0 fun v8 =>
pCall c (.fn 83 [] []) [a0, v8, (.fn 113 [] [v0, v2, v4, v6])] h7 fun v9 h10 =>
pInt .neq v9 (.int .i64 (.ofNat 0)) fun v11 =>
pCond v11 (
some ((.tup [.nils, v9]), h10)) (
pLoad1 h10 v6 fun v12 =>
some ((.tup [v12, (.int .i64 (.ofNat 0))]), h10))
theorem S63_eq (c : CV) (a0 a1 a2 a3 : AV) (h : AH) : enterK Tryz.prog NN P63 c 63 [a0, a1, a2, a3] h = S63 c a0 a1 a2 a3 h := by kernel_rfl
def W63 (c : CV) (l : List AV) (h : AH) : R := match l with | [a0, a1, a2, a3] => S63 c a0 a1 a2 a3 h | _ => none
theorem W63_ok : WOk Tryz.prog 63 W63 := by
  intro c l h r e
  unfold W63 at e
  split at e
  · exact ⟨P63, by rw [S63_eq]; exact e⟩
  · cases e
/- quietus/interp.place -/
def P64 : Pl := (.n none .z (.n none (.n none (.r [[13, 8, 1, 0], [20, 15, 1, 0]]) .z) .z))
def S64 (_ : CV) (a0 a1 : AV) (h : AH) : R :=
pInt .geq a0 (.int .u64 (.ofNat 2147483648)) fun v0 =>
joinC (α := AV × AV × AV × AV × Unit → AH → R) (fun s1 h2 =>
pPick s1.2.1 (.bool true) s1.1 fun v4 =>
joinC (α := AV × AV × AV × AV × Unit → AH → R) (fun s5 h6 =>
pPick s5.2.1 (.bool true) s5.1 fun v8 =>
pCond v8 (
some ((.tup [(.int .i64 (.ofNat 0)), (.int .i64 (.ofNat 2))]), h6)) (
pConvI .i64 s5.2.2.2.1 fun v9 =>
pInt .add v9 s5.2.2.1 fun v10 =>
some ((.tup [v10, (.int .i64 (.ofNat 0))]), h6))) fun j7 =>
pWant v4 false (
pConvI .i64 s1.2.2.2.1 fun v11 =>
pInt .add v11 s1.2.2.1 fun v12 =>
pInt .lss v12 (.int .i64 (.ofNat 6)) fun v13 =>
j7 (v13, v4, s1.2.2.1, s1.2.2.2.1, ()) h2) (
j7 (.undef, v4, s1.2.2.1, s1.2.2.2.1, ()) h2)) fun j3 =>
pWant v0 false (
pConvI .i64 a0 fun v14 =>
pInt .add v14 a1 fun v15 =>
pInt .geq v15 (.int .i64 (.ofNat 2147483648)) fun v16 =>
j3 (v16, v0, a1, a0, ()) h) (
j3 (.undef, v0, a1, a0, ()) h)
theorem S64_eq (c : CV) (a0 a1 : AV) (h : AH) : enterK Tryz.prog NN P64 c 64 [a0, a1] h = S64 c a0 a1 h := by kernel_rfl
def W64 (c : CV) (l : List AV) (h : AH) : R := match l with | [a0, a1] => S64 c a0 a1 h | _ => none
theorem W64_ok : WOk Tryz.prog 64 W64 := by
  intro c l h r e
  unfold W64 at e
  split at e
  · exact ⟨P64, by rw [S64_eq]; exact e⟩
  · cases e
/- (*quietus/view.View).Read -/
def P65 : Pl := .z
def S65 (c : CV) (a0 a1 : AV) (h : AH) : R :=
pCall c (.fn 23 [] []) [a0, a1] h fun v0 h1 =>
pUn .not v0 fun v2 =>
pCond v2 (
some ((.tup [(.int .u64 (.ofNat 0)), (.int .i64 (.ofNat 2))]), h1)) (
pNil a0 fun v3 =>
pFieldA v3 2 fun v4 =>
pLoad1 h1 v4 fun v5 =>
pCall c (.fn 116 [] []) [v5, a1] h1 fun v6 h7 =>
pExtract v6 0 fun v8 =>
pExtract v6 1 fun v9 =>
pCond v9 (
some ((.tup [v8, (.int .i64 (.ofNat 0))]), h7)) (
pNil a0 fun v10 =>
pFieldA v10 0 fun v11 =>
pLoad1 h7 v11 fun v12 =>
pIdxS v12 a1 2 fun v13 =>
pLoadN h7 v13 2 fun v14 =>
pBox h7 62 (.agg [(.int .u64 (.ofNat 0)), (.bool false)]) fun v15 h16 =>
pStore h16 v15 v14 2 fun h17 =>
pFieldA v15 1 fun v18 =>
pLoad1 h17 v18 fun v19 =>
pCond v19 (
pFieldA v15 0 fun v20 =>
pLoad1 h17 v20 fun v21 =>
some ((.tup [v21, (.int .i64 (.ofNat 0))]), h17)) (
pNil a0 fun v22 =>
pFieldA v22 3 fun v23 =>
pStore h17 v23 a1 1 fun h24 =>
some ((.tup [(.int .u64 (.ofNat 0)), (.int .i64 (.ofNat 11))]), h24))))
theorem S65_eq (c : CV) (a0 a1 : AV) (h : AH) : enterK Tryz.prog NN P65 c 65 [a0, a1] h = S65 c a0 a1 h := by kernel_rfl
def W65 (c : CV) (l : List AV) (h : AH) : R := match l with | [a0, a1] => S65 c a0 a1 h | _ => none
theorem W65_ok : WOk Tryz.prog 65 W65 := by
  intro c l h r e
  unfold W65 at e
  split at e
  · exact ⟨P65, by rw [S65_eq]; exact e⟩
  · cases e
/- (*quietus/view.View).Write -/
def P66 : Pl := .z
def S66 (c : CV) (a0 a1 a2 : AV) (h : AH) : R :=
pCall c (.fn 23 [] []) [a0, a1] h fun v0 h1 =>
pUn .not v0 fun v2 =>
pCond v2 (
some ((.int .i64 (.ofNat 2)), h1)) (
pNil a0 fun v3 =>
pFieldA v3 2 fun v4 =>
pLoad1 h1 v4 fun v5 =>
pCall c (.fn 117 [] []) [v5, a1, a2] h1 fun v6 h7 =>
some (v6, h7))
theorem S66_eq (c : CV) (a0 a1 a2 : AV) (h : AH) : enterK Tryz.prog NN P66 c 66 [a0, a1, a2] h = S66 c a0 a1 a2 h := by kernel_rfl
def W66 (c : CV) (l : List AV) (h : AH) : R := match l with | [a0, a1, a2] => S66 c a0 a1 a2 h | _ => none
theorem W66_ok : WOk Tryz.prog 66 W66 := by
  intro c l h r e
  unfold W66 at e
  split at e
  · exact ⟨P66, by rw [S66_eq]; exact e⟩
  · cases e
/- quietus/arena.Alloc -/
def P67 : Pl := .z
def S67 (c : CV) (a0 a1 : AV) (h : AH) : R :=
pCall c (.fn 118 [] []) [a1] h fun v0 h1 =>
pInt .eql v0 (.int .i64 (.ofNat 0)) fun v2 =>
pCond v2 (
some ((.tup [(.int .i64 (.ofNat 0)), (.int .i64 (.ofNat 3))]), h1)) (
pCall c (.fn 119 [] []) [v0] h1 fun v3 h4 =>
pCall c (.fn 65 [] []) [a0, v3] h4 fun v5 h6 =>
pExtract v5 0 fun v7 =>
pExtract v5 1 fun v8 =>
pInt .neq v8 (.int .i64 (.ofNat 0)) fun v9 =>
pCond v9 (
some ((.tup [(.int .i64 (.ofNat 0)), v8]), h6)) (
pInt .neq v7 (.int .u64 (.ofNat 0)) fun v10 =>
pCond v10 (
pCall c (.fn 120 [] []) [a0, v0, v7] h6 fun v11 h12 =>
pExtract v11 0 fun v13 =>
pExtract v11 1 fun v14 =>
some ((.tup [v13, v14]), h12)) (
pCall c (.fn 121 [] []) [a0, v0] h6 fun v15 h16 =>
pExtract v15 0 fun v17 =>
pExtract v15 1 fun v18 =>
some ((.tup [v17, v18]), h16))))
theorem S67_eq (c : CV) (a0 a1 : AV) (h : AH) : enterK Tryz.prog NN P67 c 67 [a0, a1] h = S67 c a0 a1 h := by kernel_rfl
def W67 (c : CV) (l : List AV) (h : AH) : R := match l with | [a0, a1] => S67 c a0 a1 h | _ => none
theorem W67_ok : WOk Tryz.prog 67 W67 := by
  intro c l h r e
  unfold W67 at e
  split at e
  · exact ⟨P67, by rw [S67_eq]; exact e⟩
  · cases e
/- quietus/arena.Free -/
def P68 : Pl := (.n none .z (.n none .z (.n (some [7, 5, 1, 0]) (.n none (.r [[19, 17, 7, 5, 1, 0]]) .z) (.n (some [7, 1, 0]) .z (.n (some [7]) .z .z)))))
def S68 (c : CV) (a0 a1 : AV) (h : AH) : R :=
pCall c (.fn 122 [] []) [a0, a1] h fun v0 h1 =>
pExtract v0 0 fun v2 =>
pExtract v0 1 fun v3 =>
pExtract v0 2 fun v4 =>
joinC (α := AV × AV × AV × AV × Unit → AH → List Nat → R) (fun s5 h6 d7 =>
joinC (α := AV × AV × AV × Unit → AH → List Nat → R) (fun s9 h10 d11 =>
joinC (α := AV × Unit → AH → List Nat → R) (fun s13 h14 d15 =>
pLeave d15 h14 fun h17 =>
some (s13.1, h17)) fun j16 =>
pInt .eql s9.1 (.int .i64 (.ofNat 0)) fun v18 =>
pCond v18 (
pCall c (.fn 124 [] []) [s9.2.2.1, s9.2.1] h10 fun _ h20 =>
j16 (s9.1, ()) h20 d11) (
j16 (s9.1, ()) h10 d11)) fun j12 =>
pInt .eql s5.1 (.int .i64 (.ofNat 0)) fun v21 =>
pCond v21 (
pInt .sub s5.2.2.1 (.int .i64 (.ofNat 1)) fun v22 =>
pConvI .u64 s5.2.1 fun v23 =>
pBuild [(.int .i64 (.ofNat 0)), (.int .u64 (.ofNat 0))] [(0, 1, v22), (1, 1, v23)] fun v24 =>
pBuildS h6 74 [(.int .i64 (.ofNat 0)), (.int .u64 (.ofNat 0))] 1 [(0, 2, v24)] fun v25 h26 =>
pCall c (.fn 123 [] []) [s5.2.2.2.1, v25] h26 fun v27 h28 =>
j12 (v27, s5.2.2.1, s5.2.2.2.1, ()) h28 d7) (
j12 (s5.1, s5.2.2.1, s5.2.2.2.1, ()) h6 d7)) fun j8 =>
pInt .eql v4 (.int .i64 (.ofNat 0)) fun v29 =>
joinC (α := AV × AV × AV × AV × AV × AV × Unit → AH → R) (fun s30 h31 =>
pPick s30.2.1 s30.1 (.bool false) fun v33 =>
pCond v33 (
j8 ((.int .i64 (.ofNat 2)), s30.2.2.2.1, s30.2.2.2.2.1, s30.2.2.2.2.2.1, ()) h31 []) (
j8 (s30.2.2.1, s30.2.2.2.1, s30.2.2.2.2.1, s30.2.2.2.2.2.1, ()) h31 [])) fun j32 =>
pWant v29 true (
pUn .not v3 fun v34 =>
j32 (v34, v29, v4, v2, a1, a0, ()) h1) (
j32 (.undef, v29, v4, v2, a1, a0, ()) h1)
theorem S68_eq (c : CV) (a0 a1 : AV) (h : AH) : enterK Tryz.prog NN P68 c 68 [a0, a1] h = S68 c a0 a1 h := by kernel_rfl
def W68 (c : CV) (l : List AV) (h : AH) : R := match l with | [a0, a1] => S68 c a0 a1 h | _ => none
theorem W68_ok : WOk Tryz.prog 68 W68 := by
  intro c l h r e
  unfold W68 at e
  split at e
  · exact ⟨P68, by rw [S68_eq]; exact e⟩
  · cases e
/- (*quietus/interp.Interp).begin -/
def P69 : Pl := (.n none .z (.n none .z (.n none (.r [[]]) .z)))
def S69 (c : CV) (a0 a1 a2 : AV) (h : AH) : R :=
pNil a0 fun v0 =>
pFieldA v0 1 fun v1 =>
pLoad1 h v1 fun v2 =>
pCall c (.fn 125 [] []) [v2] h fun v3 h4 =>
pInt .neq v3 (.int .i64 (.ofNat 0)) fun v5 =>
pCond v5 (
some (v3, h4)) (
joinC (α := Unit → AH → R) (fun _ h7 =>
some ((.int .i64 (.ofNat 0)), h7)) fun j8 =>
pNil a0 fun v9 =>
pFieldA v9 18 fun v10 =>
pLoad1 h4 v10 fun v11 =>
pNil a0 fun v12 =>
pFieldA v12 6 fun v13 =>
pLoadN h4 v13 8 fun v14 =>
pNil a0 fun v15 =>
pFieldA v15 14 fun v16 =>
pLoad1 h4 v16 fun v17 =>
pCall c (.fn 126 [] []) [v17] h4 fun v18 h19 =>
pBuild [(.int .i64 (.ofNat 0)), (.int .i64 (.ofNat 0)), (.int .u64 (.ofNat 0)), (.int .u64 (.ofNat 0)), (.int .u64 (.ofNat 0)), (.int .u64 (.ofNat 0)), (.int .u64 (.ofNat 0)), (.int .u64 (.ofNat 0)), (.int .u64 (.ofNat 0)), (.int .u64 (.ofNat 0)), (.int .i64 (.ofNat 0))] [(0, 1, a1), (1, 1, a2), (2, 8, v14), (10, 1, v18)] fun v20 =>
pBuildS h19 123 [(.int .i64 (.ofNat 0)), (.int .i64 (.ofNat 0)), (.int .u64 (.ofNat 0)), (.int .u64 (.ofNat 0)), (.int .u64 (.ofNat 0)), (.int .u64 (.ofNat 0)), (.int .u64 (.ofNat 0)), (.int .u64 (.ofNat 0)), (.int .u64 (.ofNat 0)), (.int .u64 (.ofNat 0)), (.int .i64 (.ofNat 0))] 1 [(0, 11, v20)] fun v21 h22 =>
pAppend h22 123 11 v11 v21 fun v23 h24 =>
pNil a0 fun v25 =>
pFieldA v25 18 fun v26 =>
pStore h24 v26 v23 1 fun h27 =>
pChk v13 (some 8) v14 h4 h19 h4.nx <|
pChk v10 none v11 h4 h19 h4.nx <|
j8 (()) h27)
theorem S69_eq (c : CV) (a0 a1 a2 : AV) (h : AH) : enterK Tryz.prog NN P69 c 69 [a0, a1, a2] h = S69 c a0 a1 a2 h := by kernel_rfl
def W69 (c : CV) (l : List AV) (h : AH) : R := match l with | [a0, a1, a2] => S69 c a0 a1 a2 h | _ => none
theorem W69_ok : WOk Tryz.prog 69 W69 := by
  intro c l h r e
  unfold W69 at e
  split at e
  · exact ⟨P69, by rw [S69_eq]; exact e⟩
  · cases e
/- (*quietus/interp.Interp).leave -/
def P70 : Pl := .z
def S70 (_ : CV) (a0 : AV) (h : AH) : R :=
pBox h 123 (.agg [(.int .i64 (.ofNat 0)), (.int .i64 (.ofNat 0)), (.int .u64 (.ofNat 0)), (.int .u64 (.ofNat 0)), (.int .u64 (.ofNat 0)), (.int .u64 (.ofNat 0)), (.int .u64 (.ofNat 0)), (.int .u64 (.ofNat 0)), (.int .u64 (.ofNat 0)), (.int .u64 (.ofNat 0)), (.int .i64 (.ofNat 0))]) fun v0 h1 =>
pNil a0 fun v2 =>
pFieldA v2 18 fun v3 =>
pLoad1 h1 v3 fun v4 =>
pNil a0 fun v5 =>
pFieldA v5 18 fun v6 =>
pLoad1 h1 v6 fun v7 =>
pLenS v7 fun v8 =>
pInt .sub v8 (.int .i64 (.ofNat 1)) fun v9 =>
pIdxS v4 v9 11 fun v10 =>
pLoadN h1 v10 11 fun v11 =>
pBox h1 123 (.agg [(.int .i64 (.ofNat 0)), (.int .i64 (.ofNat 0)), (.int .u64 (.ofNat 0)), (.int .u64 (.ofNat 0)), (.int .u64 (.ofNat 0)), (.int .u64 (.ofNat 0)), (.int .u64 (.ofNat 0)), (.int .u64 (.ofNat 0)), (.int .u64 (.ofNat 0)), (.int .u64 (.ofNat 0)), (.int .i64 (.ofNat 0))]) fun v12 h13 =>
pStore h13 v12 v11 11 fun h14 =>
pNil a0 fun v15 =>
pFieldA v15 18 fun v16 =>
pLoad1 h14 v16 fun v17 =>
pNil a0 fun v18 =>
pFieldA v18 18 fun v19 =>
pLoad1 h14 v19 fun v20 =>
pLenS v20 fun v21 =>
pInt .sub v21 (.int .i64 (.ofNat 1)) fun v22 =>
pSlice h14 123 11 v17 none (some v22) fun v23 =>
pNil a0 fun v24 =>
pFieldA v24 18 fun v25 =>
pStore h14 v25 v23 1 fun h26 =>
pLoadN h26 v12 11 fun v27 =>
pStore h26 v0 v27 11 fun h28 =>
pLoadN h28 v0 11 fun v29 =>
some (v29, h28)
theorem S70_eq (c : CV) (a0 : AV) (h : AH) : enterK Tryz.prog NN P70 c 70 [a0] h = S70 c a0 h := by kernel_rfl
def W70 (c : CV) (l : List AV) (h : AH) : R := match l with | [a0] => S70 c a0 h | _ => none
theorem W70_ok : WOk Tryz.prog 70 W70 := by
  intro c l h r e
  unfold W70 at e
  split at e
  · exact ⟨P70, by rw [S70_eq]; exact e⟩
  · cases e
/- (*quietus/view.View).Keep -/
def P71 : Pl := .z
def S71 (c : CV) (a0 : AV) (h : AH) : R :=
pNil a0 fun v0 =>
pFieldA v0 2 fun v1 =>
pLoad1 h v1 fun v2 =>
pCall c (.fn 127 [] []) [v2] h fun v3 h4 =>
some (v3, h4)
theorem S71_eq (c : CV) (a0 : AV) (h : AH) : enterK Tryz.prog NN P71 c 71 [a0] h = S71 c a0 h := by kernel_rfl
def W71 (c : CV) (l : List AV) (h : AH) : R := match l with | [a0] => S71 c a0 h | _ => none
theorem W71_ok : WOk Tryz.prog 71 W71 := by
  intro c l h r e
  unfold W71 at e
  split at e
  · exact ⟨P71, by rw [S71_eq]; exact e⟩
  · cases e
/- (*quietus/interp.Interp).back -/
def P72 : Pl := .z
def S72 (c : CV) (a0 a1 : AV) (h : AH) : R :=
pBox h 123 a1 fun v0 h1 =>
pFieldA v0 2 fun v2 =>
pLoadN h1 v2 8 fun v3 =>
pNil a0 fun v4 =>
pFieldA v4 6 fun v5 =>
pStore h1 v5 v3 8 fun h6 =>
pNil a0 fun v7 =>
pFieldA v7 14 fun v8 =>
pLoad1 h6 v8 fun v9 =>
pFieldA v0 10 fun v10 =>
pLoad1 h6 v10 fun v11 =>
pCall c (.fn 128 [] []) [v9, v11] h6 fun _ h13 =>
some ((.tup []), h13)
theorem S72_eq (c : CV) (a0 a1 : AV) (h : AH) : enterK Tryz.prog NN P72 c 72 [a0, a1] h = S72 c a0 a1 h := by kernel_rfl
def W72 (c : CV) (l : List AV) (h : AH) : R := match l with | [a0, a1] => S72 c a0 a1 h | _ => none
theorem W72_ok : WOk Tryz.prog 72 W72 := by
  intro c l h r e
  unfold W72 at e
  split at e
  · exact ⟨P72, by rw [S72_eq]; exact e⟩
  · cases e
/- (*quietus/view.View).Drop -/
def P73 : Pl := .z
def S73 (c : CV) (a0 : AV) (h : AH) : R :=
pNil a0 fun v0 =>
pFieldA v0 2 fun v1 =>
pLoad1 h v1 fun v2 =>
pCall c (.fn 129 [] []) [v2] h fun v3 h4 =>
some (v3, h4)
theorem S73_eq (c : CV) (a0 : AV) (h : AH) : enterK Tryz.prog NN P73 c 73 [a0] h = S73 c a0 h := by kernel_rfl
def W73 (c : CV) (l : List AV) (h : AH) : R := match l with | [a0] => S73 c a0 h | _ => none
theorem W73_ok : WOk Tryz.prog 73 W73 := by
  intro c l h r e
  unfold W73 at e
  split at e
  · exact ⟨P73, by rw [S73_eq]; exact e⟩
  · cases e
/- (*quietus/interp.Interp).retry -/
def P74 : Pl := (.n none .z (.n none (.n none (.n (some [0]) .z .z) .z) .z))
def S74 (c : CV) (a0 : AV) (h : AH) : R :=
loopC (σ := AV × Unit) NN (fun i3 s0 h1 d2 =>
pNil s0.1 fun v4 =>
pFieldA v4 18 fun v5 =>
pLoad1 h1 v5 fun v6 =>
pLenS v6 fun v7 =>
pInt .gtr v7 (.int .i64 (.ofNat 0)) fun v8 =>
pCond v8 (
pCall c (.fn 70 [] []) [s0.1] h1 fun v9 h10 =>
pBox h10 123 (.agg [(.int .i64 (.ofNat 0)), (.int .i64 (.ofNat 0)), (.int .u64 (.ofNat 0)), (.int .u64 (.ofNat 0)), (.int .u64 (.ofNat 0)), (.int .u64 (.ofNat 0)), (.int .u64 (.ofNat 0)), (.int .u64 (.ofNat 0)), (.int .u64 (.ofNat 0)), (.int .u64 (.ofNat 0)), (.int .i64 (.ofNat 0))]) fun v11 h12 =>
pStore h12 v11 v9 11 fun h13 =>
pNil s0.1 fun v14 =>
pFieldA v14 1 fun v15 =>
pLoad1 h13 v15 fun v16 =>
pCall c (.fn 73 [] []) [v16] h13 fun v17 h18 =>
pInt .neq v17 (.int .i64 (.ofNat 0)) fun v19 =>
pCond v19 (
pLeave d2 h18 fun h20 =>
some (v17, h20)) (
pFieldA v11 0 fun v21 =>
pLoad1 h18 v21 fun v22 =>
pInt .eql v22 (.int .i64 (.ofNat 17)) fun v23 =>
pCond v23 (
pLoadN h18 v11 11 fun v24 =>
pCall c (.fn 72 [] []) [s0.1, v24] h18 fun _ h26 =>
pNil s0.1 fun v27 =>
pFieldA v27 2 fun v28 =>
pLoad1 h26 v28 fun v29 =>
pFieldA v11 1 fun v30 =>
pLoad1 h26 v30 fun v31 =>
pIdxS v29 v31 1 fun v32 =>
pLoad1 h26 v32 fun v33 =>
pInt .add v33 (.int .i64 (.ofNat 1)) fun v34 =>
pNil s0.1 fun v35 =>
pFieldA v35 16 fun v36 =>
pStore h26 v36 v34 1 fun h37 =>
pCall c (.fn 69 [] []) [s0.1, (.int .i64 (.ofNat 18)), v33] h37 fun v38 h39 =>
pLeave d2 h39 fun h40 =>
some (v38, h40)) (
i3 (s0.1, ()) h18 d2))) (
pNil s0.1 fun v41 =>
pFieldA v41 15 fun v42 =>
pLoad1 h1 v42 fun v43 =>
pNil s0.1 fun v44 =>
pFieldA v44 16 fun v45 =>
pStore h1 v45 v43 1 fun h46 =>
pNil s0.1 fun v47 =>
pFieldA v47 5 fun v48 =>
pStore h46 v48 (.int .i64 (.ofNat 3)) 1 fun h49 =>
pLeave d2 h49 fun h50 =>
some ((.int .i64 (.ofNat 0)), h50))) (a0, ()) h []
theorem S74_eq (c : CV) (a0 : AV) (h : AH) : enterK Tryz.prog NN P74 c 74 [a0] h = S74 c a0 h := by kernel_rfl
def W74 (c : CV) (l : List AV) (h : AH) : R := match l with | [a0] => S74 c a0 h | _ => none
theorem W74_ok : WOk Tryz.prog 74 W74 := by
  intro c l h r e
  unfold W74 at e
  split at e
  · exact ⟨P74, by rw [S74_eq]; exact e⟩
  · cases e
/- internal/strconv.FormatUint -/
def P75 : Pl := .z
def S75 (c : CV) (a0 a1 : AV) (h : AH) : R :=
pInt .eql a1 (.int .i64 (.ofNat 10)) fun v0 =>
pCond v0 (
pInt .lss a0 (.int .u64 (.ofNat 100)) fun v1 =>
pCond v1 (
pConvI .i64 a0 fun v2 =>
pCall c (.fn 130 [] []) [v2] h fun v3 h4 =>
some (v3, h4)) (
pBox h 163 (.agg [(.int .u8 (.ofNat 0)), (.int .u8 (.ofNat 0)), (.int .u8 (.ofNat 0)), (.int .u8 (.ofNat 0)), (.int .u8 (.ofNat 0)), (.int .u8 (.ofNat 0)), (.int .u8 (.ofNat 0)), (.int .u8 (.ofNat 0)), (.int .u8 (.ofNat 0)), (.int .u8 (.ofNat 0)), (.int .u8 (.ofNat 0)), (.int .u8 (.ofNat 0)), (.int .u8 (.ofNat 0)), (.int .u8 (.ofNat 0)), (.int .u8 (.ofNat 0)), (.int .u8 (.ofNat 0)), (.int .u8 (.ofNat 0)), (.int .u8 (.ofNat 0)), (.int .u8 (.ofNat 0)), (.int .u8 (.ofNat 0)), (.int .u8 (.ofNat 0)), (.int .u8 (.ofNat 0)), (.int .u8 (.ofNat 0)), (.int .u8 (.ofNat 0))]) fun v5 h6 =>
pCall c (.fn 131 [] []) [a0] h6 fun v7 h8 =>
pSliceP 24 1 v5 none (some v7) fun v9 =>
pCall c (.fn 132 [] []) [v9, a0] h8 fun _ h11 =>
pSliceP 24 1 v5 none (some v7) fun v12 =>
pB2S h11 v12 fun v13 =>
some (v13, h11))) (
pCall c (.fn 133 [] []) [.nils, a0, a1, (.bool false), (.bool false)] h fun v14 h15 =>
pExtract v14 0 fun _ =>
pExtract v14 1 fun v17 =>
some (v17, h15))
theorem S75_eq (c : CV) (a0 a1 : AV) (h : AH) : enterK Tryz.prog NN P75 c 75 [a0, a1] h = S75 c a0 a1 h := by kernel_rfl
def W75 (c : CV) (l : List AV) (h : AH) : R := match l with | [a0, a1] => S75 c a0 a1 h | _ => none
theorem W75_ok : WOk Tryz.prog 75 W75 := by
  intro c l h r e
  unfold W75 at e
  split at e
  · exact ⟨P75, by rw [S75_eq]; exact e⟩
  · cases e
/- (*strings.Builder).copyCheck -/
def P76 : Pl := .z
def S76 (_ : CV) (a0 : AV) (h : AH) : R :=
pNil a0 fun v0 =>
pFieldA v0 0 fun v1 =>
pLoad1 h v1 fun v2 =>
pEq .ptr false v2 .nilp fun v3 =>
pCond v3 (
none /- op -/) (
pNil a0 fun v4 =>
pFieldA v4 0 fun v5 =>
pLoad1 h v5 fun v6 =>
pEq .ptr true v6 a0 fun v7 =>
pCond v7 (
none /- code -/) (
some ((.tup []), h)))
theorem S76_eq (c : CV) (a0 : AV) (h : AH) : enterK Tryz.prog NN P76 c 76 [a0] h = S76 c a0 h := by kernel_rfl
def W76 (c : CV) (l : List AV) (h : AH) : R := match l with | [a0] => S76 c a0 h | _ => none
theorem W76_ok : WOk Tryz.prog 76 W76 := by
  intro c l h r e
  unfold W76 at e
  split at e
  · exact ⟨P76, by rw [S76_eq]; exact e⟩
  · cases e
/- (*strings.Builder).grow -/
def P77 : Pl := (.n none (.r [[4, 0]]) .z)
def S77 (_ : CV) (a0 _ : AV) (h : AH) : R :=
joinC (α := AV × AV × Unit → AH → R) (fun s0 h1 =>
pNil s0.2.1 fun v3 =>
pFieldA v3 1 fun v4 =>
pLoad1 h1 v4 fun v5 =>
pCopy h1 1 s0.1 v5 fun _ h7 =>
pNil s0.2.1 fun v8 =>
pFieldA v8 1 fun v9 =>
pStore h7 v9 s0.1 1 fun h10 =>
some ((.tup []), h10)) fun _ =>
pNil a0 fun v11 =>
pFieldA v11 1 fun v12 =>
pLoad1 h v12 fun _ =>
none /- op -/
theorem S77_eq (c : CV) (a0 a1 : AV) (h : AH) : enterK Tryz.prog NN P77 c 77 [a0, a1] h = S77 c a0 a1 h := by kernel_rfl
def W77 (c : CV) (l : List AV) (h : AH) : R := match l with | [a0, a1] => S77 c a0 a1 h | _ => none
theorem W77_ok : WOk Tryz.prog 77 W77 := by
  intro c l h r e
  unfold W77 at e
  split at e
  · exact ⟨P77, by rw [S77_eq]; exact e⟩
  · cases e
/- quietus/code.fields -/
def P78 : Pl := (.n none .z (.n none .z (.n none (.n none .z (.n (some [4, 3, 2]) (.n (some [8, 7, 5, 4, 3, 2]) .z (.n none .z (.n (some [13, 7, 5, 4, 3, 2]) .z (.n none (.r [[4, 3, 2]]) (.n (some [18, 7, 5, 4, 3, 2]) .z (.n none (.r [[4, 3, 2]]) (.n (some [27, 7, 5, 4, 3, 2]) .z (.n none (.r [[4, 3, 2]]) .z)))))))) .z)) (.n none (.r [[4, 3, 2]]) .z))))
def S78 (_ : CV) (a0 : AV) (h : AH) : R :=
pBox h 128 (.agg [(.int .i64 (.ofNat 0)), (.int .i64 (.ofNat 0))]) fun v0 h1 =>
pBox h1 128 (.agg [(.int .i64 (.ofNat 0)), (.int .i64 (.ofNat 0))]) fun v2 h3 =>
pBox h3 128 (.agg [(.int .i64 (.ofNat 0)), (.int .i64 (.ofNat 0))]) fun v4 h5 =>
pBuild [(.int .i64 (.ofNat 0)), (.int .i64 (.ofNat 0))] [(1, 1, (.int .i64 (.ofNat 7)))] fun v6 =>
pBox h5 128 (.agg [(.int .i64 (.ofNat 0)), (.int .i64 (.ofNat 0))]) fun v7 h8 =>
pStore h8 v7 v6 2 fun h9 =>
joinC (α := AV × AV × AV × Unit → AH → List Nat → R) (fun s10 h11 d12 =>
joinC (α := AV × AV × AV × Unit → AH → R) (fun s14 h15 =>
pLeave d12 h15 fun h17 =>
pLoadN h17 s14.2.2.1 2 fun v18 =>
pLoadN h17 s14.2.1 2 fun v19 =>
pLoadN h17 s14.1 2 fun v20 =>
some ((.tup [v18, v19, v20]), h17)) fun j16 =>
pLoadN h11 s10.2.2.1 2 fun v21 =>
pLoadN h11 s10.2.1 2 fun v22 =>
pLoadN h11 s10.1 2 fun v23 =>
pStore h11 s10.2.2.1 v21 2 fun h24 =>
pStore h24 s10.2.1 v22 2 fun h25 =>
pStore h25 s10.1 v23 2 fun h26 =>
pChk s10.1 (some 2) v23 h24 h25 h11.nx <|
pChk s10.1 (some 2) v23 h11 h24 h11.nx <|
pChk s10.2.1 (some 2) v22 h11 h24 h11.nx <|
j16 (s10.1, s10.2.1, s10.2.2.1, ()) h26) fun j13 =>
joinC (α := AV × AV × AV × AV × AV × AV × Unit → AH → List Nat → R) (fun s27 h28 d29 =>
pCond s27.1 (
pLoadN h28 s27.2.2.1 2 fun v31 =>
pStore h28 s27.2.2.2.2.2.1 v31 2 fun h32 =>
j13 (s27.2.2.2.1, s27.2.2.2.2.1, s27.2.2.2.2.2.1, ()) h32 d29) (
joinC (α := AV × AV × AV × AV × AV × AV × Unit → AH → List Nat → R) (fun s33 h34 d35 =>
pCond s33.1 (
joinC (α := AV × AV × AV × Unit → AH → R) (fun s37 h38 =>
j13 (s37.1, s37.2.1, s37.2.2.1, ()) h38 d35) fun j39 =>
pLoadN h34 s33.2.2.1 2 fun v40 =>
pLoadN h34 s33.2.2.1 2 fun v41 =>
pStore h34 s33.2.2.2.2.2.1 v40 2 fun h42 =>
pStore h42 s33.2.2.2.2.1 v41 2 fun h43 =>
pChk s33.2.2.1 (some 2) v41 h34 h42 h34.nx <|
j39 (s33.2.2.2.1, s33.2.2.2.2.1, s33.2.2.2.2.2.1, ()) h43) (
joinC (α := AV × AV × AV × AV × AV × AV × Unit → AH → List Nat → R) (fun s44 h45 d46 =>
pCond s44.1 (
joinC (α := AV × AV × AV × Unit → AH → R) (fun s48 h49 =>
j13 (s48.1, s48.2.1, s48.2.2.1, ()) h49 d46) fun j50 =>
pLoadN h45 s44.2.2.1 2 fun v51 =>
pLoadN h45 s44.2.2.1 2 fun v52 =>
pLoadN h45 s44.2.2.1 2 fun v53 =>
pStore h45 s44.2.2.2.2.2.1 v51 2 fun h54 =>
pStore h54 s44.2.2.2.2.1 v52 2 fun h55 =>
pStore h55 s44.2.2.2.1 v53 2 fun h56 =>
pChk s44.2.2.1 (some 2) v53 h54 h55 h45.nx <|
pChk s44.2.2.1 (some 2) v53 h45 h54 h45.nx <|
pChk s44.2.2.1 (some 2) v52 h45 h54 h45.nx <|
j50 (s44.2.2.2.1, s44.2.2.2.2.1, s44.2.2.2.2.2.1, ()) h56) (
joinC (α := AV × AV × AV × AV × AV × AV × Unit → AH → List Nat → R) (fun s57 h58 d59 =>
pCond s57.1 (
joinC (α := AV × AV × AV × Unit → AH → R) (fun s61 h62 =>
j13 (s61.1, s61.2.1, s61.2.2.1, ()) h62 d59) fun j63 =>
pLoadN h58 s57.2.2.1 2 fun v64 =>
pLoadN h58 s57.2.2.1 2 fun v65 =>
pBuild [(.int .i64 (.ofNat 0)), (.int .i64 (.ofNat 0))] [(1, 1, (.int .i64 (.ofNat 15)))] fun v66 =>
pStore h58 s57.2.2.2.2.2.1 v64 2 fun h67 =>
pStore h67 s57.2.2.2.2.1 v65 2 fun h68 =>
pStore h68 s57.2.2.2.1 v66 2 fun h69 =>
pChk s57.2.2.1 (some 2) v65 h58 h67 h58.nx <|
j63 (s57.2.2.2.1, s57.2.2.2.2.1, s57.2.2.2.2.2.1, ()) h69) (
pInt .eql s57.2.1 (.int .i64 (.ofNat 12)) fun v70 =>
pCond v70 (
pBuild [(.int .i64 (.ofNat 0)), (.int .i64 (.ofNat 0))] [(1, 1, (.int .i64 (.ofNat 40)))] fun v71 =>
pStore h58 s57.2.2.2.1 v71 2 fun h72 =>
j13 (s57.2.2.2.1, s57.2.2.2.2.1, s57.2.2.2.2.2.1, ()) h72 d59) (
pInt .eql s57.2.1 (.int .i64 (.ofNat 13)) fun v73 =>
pCond v73 (
pLoadN h58 s57.2.2.1 2 fun v74 =>
pBuild [(.int .i64 (.ofNat 0)), (.int .i64 (.ofNat 0))] [(1, 1, (.int .i64 (.ofNat 40)))] fun v75 =>
pStore h58 s57.2.2.2.2.2.1 v74 2 fun h76 =>
pStore h76 s57.2.2.2.1 v75 2 fun h77 =>
j13 (s57.2.2.2.1, s57.2.2.2.2.1, s57.2.2.2.2.2.1, ()) h77 d59) (
pInt .eql s57.2.1 (.int .i64 (.ofNat 23)) fun v78 =>
pCond v78 (
pBuild [(.int .i64 (.ofNat 0)), (.int .i64 (.ofNat 0))] [(0, 1, (.int .i64 (.ofNat 1))), (1, 1, (.int .i64 (.ofNat 12)))] fun v79 =>
pBuild [(.int .i64 (.ofNat 0)), (.int .i64 (.ofNat 0))] [(1, 1, (.int .i64 (.ofNat 7)))] fun v80 =>
pBuild [(.int .i64 (.ofNat 0)), (.int .i64 (.ofNat 0))] [(1, 1, (.int .i64 (.ofNat 6)))] fun v81 =>
pStore h58 s57.2.2.2.2.2.1 v79 2 fun h82 =>
pStore h82 s57.2.2.2.2.1 v80 2 fun h83 =>
pStore h83 s57.2.2.2.1 v81 2 fun h84 =>
j13 (s57.2.2.2.1, s57.2.2.2.2.1, s57.2.2.2.2.2.1, ()) h84 d59) (
j13 (s57.2.2.2.1, s57.2.2.2.2.1, s57.2.2.2.2.2.1, ()) h58 d59))))) fun j60 =>
pInt .eql s44.2.1 (.int .i64 (.ofNat 8)) fun v85 =>
pCond v85 (
j60 (v85, s44.2.1, s44.2.2.1, s44.2.2.2.1, s44.2.2.2.2.1, s44.2.2.2.2.2.1, ()) h45 d46) (
pInt .eql s44.2.1 (.int .i64 (.ofNat 9)) fun v86 =>
j60 (v86, s44.2.1, s44.2.2.1, s44.2.2.2.1, s44.2.2.2.2.1, s44.2.2.2.2.2.1, ()) h45 d46))) fun j47 =>
pInt .eql s33.2.1 (.int .i64 (.ofNat 3)) fun v87 =>
pCond v87 (
j47 (v87, s33.2.1, s33.2.2.1, s33.2.2.2.1, s33.2.2.2.2.1, s33.2.2.2.2.2.1, ()) h34 d35) (
pInt .eql s33.2.1 (.int .i64 (.ofNat 4)) fun v88 =>
pCond v88 (
j47 (v88, s33.2.1, s33.2.2.1, s33.2.2.2.1, s33.2.2.2.2.1, s33.2.2.2.2.2.1, ()) h34 d35) (
pInt .eql s33.2.1 (.int .i64 (.ofNat 5)) fun v89 =>
pCond v89 (
j47 (v89, s33.2.1, s33.2.2.1, s33.2.2.2.1, s33.2.2.2.2.1, s33.2.2.2.2.2.1, ()) h34 d35) (
pInt .eql s33.2.1 (.int .i64 (.ofNat 6)) fun v90 =>
pCond v90 (
j47 (v90, s33.2.1, s33.2.2.1, s33.2.2.2.1, s33.2.2.2.2.1, s33.2.2.2.2.2.1, ()) h34 d35) (
pInt .eql s33.2.1 (.int .i64 (.ofNat 7)) fun v91 =>
j47 (v91, s33.2.1, s33.2.2.1, s33.2.2.2.1, s33.2.2.2.2.1, s33.2.2.2.2.2.1, ()) h34 d35)))))) fun j36 =>
pInt .eql s27.2.1 (.int .i64 (.ofNat 2)) fun v92 =>
pCond v92 (
j36 (v92, s27.2.1, s27.2.2.1, s27.2.2.2.1, s27.2.2.2.2.1, s27.2.2.2.2.2.1, ()) h28 d29) (
pInt .eql s27.2.1 (.int .i64 (.ofNat 10)) fun v93 =>
j36 (v93, s27.2.1, s27.2.2.1, s27.2.2.2.1, s27.2.2.2.2.1, s27.2.2.2.2.2.1, ()) h28 d29))) fun j30 =>
pInt .eql a0 (.int .i64 (.ofNat 1)) fun v94 =>
pCond v94 (
j30 (v94, a0, v7, v4, v2, v0, ()) h9 []) (
pInt .eql a0 (.int .i64 (.ofNat 11)) fun v95 =>
pCond v95 (
j30 (v95, a0, v7, v4, v2, v0, ()) h9 []) (
pInt .eql a0 (.int .i64 (.ofNat 21)) fun v96 =>
j30 (v96, a0, v7, v4, v2, v0, ()) h9 []))
theorem S78_eq (c : CV) (a0 : AV) (h : AH) : enterK Tryz.prog NN P78 c 78 [a0] h = S78 c a0 h := by kernel_rfl
def W78 (c : CV) (l : List AV) (h : AH) : R := match l with | [a0] => S78 c a0 h | _ => none
theorem W78_ok : WOk Tryz.prog 78 W78 := by
  intro c l h r e
  unfold W78 at e
  split at e
  · exact ⟨P78, by rw [S78_eq]; exact e⟩
  · cases e
/- quietus/code.Name -/
def P79 : Pl := .z
def S79 (c : CV) (a0 : AV) (h : AH) : R :=
pCall c (.fn 137 [] []) [] h fun v0 h1 =>
pCall c (.fn 136 [] []) [v0, a0] h1 fun v2 h3 =>
some (v2, h3)
theorem S79_eq (c : CV) (a0 : AV) (h : AH) : enterK Tryz.prog NN P79 c 79 [a0] h = S79 c a0 h := by kernel_rfl
def W79 (c : CV) (l : List AV) (h : AH) : R := match l with | [a0] => S79 c a0 h | _ => none
theorem W79_ok : WOk Tryz.prog 79 W79 := by
  intro c l h r e
  unfold W79 at e
  split at e
  · exact ⟨P79, by rw [S79_eq]; exact e⟩
  · cases e
/- (quietus/code.field).fits -/
def P80 : Pl := (.n none .z (.n none (.r [[13, 9]]) .z))
def S80 (_ : CV) (a0 a1 : AV) (h : AH) : R :=
pBox h 128 a0 fun v0 h1 =>
pFieldA v0 0 fun v2 =>
pLoad1 h1 v2 fun v3 =>
pInt .geq a1 v3 fun v4 =>
joinC (α := AV × AV × Unit → AH → R) (fun s5 h6 =>
pPick s5.2.1 s5.1 (.bool false) fun v8 =>
some (v8, h6)) fun j7 =>
pWant v4 true (
pFieldA v0 1 fun v9 =>
pLoad1 h1 v9 fun v10 =>
pInt .leq a1 v10 fun v11 =>
j7 (v11, v4, ()) h1) (
j7 (.undef, v4, ()) h1)
theorem S80_eq (c : CV) (a0 a1 : AV) (h : AH) : enterK Tryz.prog NN P80 c 80 [a0, a1] h = S80 c a0 a1 h := by kernel_rfl
def W80 (c : CV) (l : List AV) (h : AH) : R := match l with | [a0, a1] => S80 c a0 a1 h | _ => none
theorem W80_ok : WOk Tryz.prog 80 W80 := by
  intro c l h r e
  unfold W80 at e
  split at e
  · exact ⟨P80, by rw [S80_eq]; exact e⟩
  · cases e
/- (*quietus/interp.Interp).truth$1 -/
def P81 : Pl := (.n none .z (.n none .z (.n none .z (.n none (.r [[]]) .z))))
def S81 (c : CV) (a0 a1 a2 a3 : AV) (h : AH) : R :=
pInt .neq a1 (.int .i64 (.ofNat 0)) fun v0 =>
pCond v0 (
some (a1, h)) (
pLoad1 h a2 fun v1 =>
pNil v1 fun v2 =>
pFieldA v2 14 fun v3 =>
pLoad1 h v3 fun v4 =>
pCall c (.fn 82 [] []) [v4, a0] h fun v5 h6 =>
pUn .not v5 fun v7 =>
pCond v7 (
some ((.int .i64 (.ofNat 5)), h6)) (
joinC (α := Unit → AH → R) (fun _ h9 =>
some ((.int .i64 (.ofNat 0)), h9)) fun j10 =>
pLoad1 h6 a2 fun v11 =>
pFieldA a3 3 fun v12 =>
pLoad1 h6 v12 fun v13 =>
pCall c (.fn 34 [] []) [a0] h6 fun v14 h15 =>
pNil v11 fun v16 =>
pFieldA v16 6 fun v17 =>
pIdxP v17 v13 8 1 fun v18 =>
pStore h15 v18 v14 1 fun h19 =>
pChk v12 none v13 h6 h15 h6.nx <|
pChk a2 none v11 h6 h15 h6.nx <|
j10 (()) h19))
theorem S81_eq (c : CV) (a0 a1 a2 a3 : AV) (h : AH) : enterK Tryz.prog NN P81 c 81 [a0, a1, a2, a3] h = S81 c a0 a1 a2 a3 h := by kernel_rfl
def W81 (c : CV) (l : List AV) (h : AH) : R := match l with | [a0, a1, a2, a3] => S81 c a0 a1 a2 a3 h | _ => none
theorem W81_ok : WOk Tryz.prog 81 W81 := by
  intro c l h r e
  unfold W81 at e
  split at e
  · exact ⟨P81, by rw [S81_eq]; exact e⟩
  · cases e
/- (*quietus/slate.Slate).AddTruth -/
def P82 : Pl := .z
def S82 (c : CV) (a0 a1 : AV) (h : AH) : R :=
pCall c (.fn 49 [] []) [a0, (.iface 4 a1)] h fun v0 h1 =>
some (v0, h1)
theorem S82_eq (c : CV) (a0 a1 : AV) (h : AH) : enterK Tryz.prog NN P82 c 82 [a0, a1] h = S82 c a0 a1 h := by kernel_rfl
def W82 (c : CV) (l : List AV) (h : AH) : R := match l with | [a0, a1] => S82 c a0 a1 h | _ => none
theorem W82_ok : WOk Tryz.prog 82 W82 := by
  intro c l h r e
  unfold W82 at e
  split at e
  · exact ⟨P82, by rw [S82_eq]; exact e⟩
  · cases e
/- quietus/draft.Do -/
def P83 : Pl := (.n none .z (.n none (.n none (.r [[17, 15, 2, 0]]) .z) (.n none .z (.n none .z (.n none .z (.n none .z (.n none .z (.n none (.n none .z (.n none (.n (some [67, 66, 65, 0]) .z .z) .z)) .z))))))))
def S83 (c : CV) (a0 a1 a2 : AV) (h : AH) : R :=
pInt .lss a1 (.int .i64 (.ofNat 6)) fun v0 =>
joinC (α := AV × AV × AV × AV × Unit → AH → R) (fun s1 h2 =>
pPick s1.2.1 (.bool true) s1.1 fun v4 =>
pCond v4 (
some ((.int .i64 (.ofNat 2)), h2)) (
pCall c (.fn 138 [] []) [s1.2.2.2.1] h2 fun v5 h6 =>
pBuild [.nilp, (.int .i64 (.ofNat 0)), (.int .i64 (.ofNat 0))] [(0, 1, v5)] fun v7 =>
pBox h6 174 v7 fun v8 h9 =>
pCall c s1.2.2.1 [v8] h9 fun _ h11 =>
pNil v8 fun v12 =>
pFieldA v12 1 fun v13 =>
pLoad1 h11 v13 fun v14 =>
pInt .eql v14 (.int .i64 (.ofNat 11)) fun v15 =>
pCond v15 (
pNil v8 fun v16 =>
pFieldA v16 0 fun v17 =>
pLoad1 h11 v17 fun v18 =>
pCall c (.fn 8 [] []) [v18] h11 fun v19 h20 =>
pCall c (.fn 65 [] []) [s1.2.2.2.1, v19] h20 fun v21 h22 =>
pExtract v21 0 fun _ =>
pExtract v21 1 fun v24 =>
some (v24, h22)) (
pNil v8 fun v25 =>
pFieldA v25 1 fun v26 =>
pLoad1 h11 v26 fun v27 =>
pInt .neq v27 (.int .i64 (.ofNat 0)) fun v28 =>
pCond v28 (
pNil v8 fun v29 =>
pFieldA v29 1 fun v30 =>
pLoad1 h11 v30 fun v31 =>
some (v31, h11)) (
pNil v8 fun v32 =>
pFieldA v32 0 fun v33 =>
pLoad1 h11 v33 fun v34 =>
pCall c (.fn 139 [] []) [v34] h11 fun v35 h36 =>
pCall c (.fn 123 [] []) [s1.2.2.2.1, v35] h36 fun v37 h38 =>
pInt .neq v37 (.int .i64 (.ofNat 0)) fun v39 =>
pCond v39 (
some (v37, h38)) (
pNil v8 fun v40 =>
pFieldA v40 0 fun v41 =>
pLoad1 h38 v41 fun v42 =>
pCall c (.fn 140 [] []) [v42] h38 fun v43 h44 =>
pLenS v43 fun v45 =>
loopC (σ := AV × AV × AV × AV × Unit) NN (fun i49 s46 h47 d48 =>
pInt .lss s46.1 s46.2.1 fun v50 =>
pCond v50 (
pIdxS s46.2.2.1 s46.1 1 fun v51 =>
pLoad1 h47 v51 fun v52 =>
pCall c (.fn 124 [] []) [s46.2.2.2.1, v52] h47 fun _ h54 =>
pInt .add s46.1 (.int .i64 (.ofNat 1)) fun v55 =>
i49 (v55, s46.2.1, s46.2.2.1, s46.2.2.2.1, ()) h54 d48) (
pLeave d48 h47 fun h56 =>
some ((.int .i64 (.ofNat 0)), h56))) ((.int .i64 (.ofNat 0)), v45, v43, s1.2.2.2.1, ()) h44 []))))) fun j3 =>
pWant v0 false (
pInt .geq a1 (.int .i64 (.ofNat 14)) fun v57 =>
j3 (v57, v0, a2, a0, ()) h) (
j3 (.undef, v0, a2, a0, ()) h)
theorem S83_eq (c : CV) (a0 a1 a2 : AV) (h : AH) : enterK Tryz.prog NN P83 c 83 [a0, a1, a2] h = S83 c a0 a1 a2 h := by kernel_rfl
def W83 (c : CV) (l : List AV) (h : AH) : R := match l with | [a0, a1, a2] => S83 c a0 a1 a2 h | _ => none
theorem W83_ok : WOk Tryz.prog 83 W83 := by
  intro c l h r e
  unfold W83 at e
  split at e
  · exact ⟨P83, by rw [S83_eq]; exact e⟩
  · cases e
/- quietus/list.Add$1 -/
def P84 : Pl := (.n none .z (.n none (.n none (.r [[22, 18, 6, 5, 3, 2, 0]]) .z) .z))
def S84 (c : CV) (a0 a1 a2 a3 : AV) (h : AH) : R :=
pLoad1 h a1 fun v0 =>
pLoad1 h a2 fun v1 =>
pCall c (.fn 85 [] []) [a0, v0, v1] h fun v2 h3 =>
pExtract v2 0 fun v4 =>
pExtract v2 1 fun v5 =>
pCall c (.fn 86 [] []) [a0] h3 fun v6 h7 =>
pUn .not v6 fun v8 =>
joinC (α := AV × AV × AV × AV × AV × AV × AV × Unit → AH → R) (fun s9 h10 =>
pPick s9.2.1 (.bool true) s9.1 fun v12 =>
pCond v12 (
some ((.tup []), h10)) (
pCall c (.fn 88 [] []) [s9.2.2.2.2.2.2.1, (.int .i64 (.ofNat 2))] h10 fun v13 h14 =>
pInt .add v13 (.int .i64 (.ofNat 0)) fun v15 =>
pLoad1 h14 s9.2.2.2.2.2.1 fun v16 =>
pCall c (.fn 89 [] []) [s9.2.2.2.2.2.2.1, v15, v16] h14 fun _ h18 =>
pInt .add v13 (.int .i64 (.ofNat 1)) fun v19 =>
pCall c (.fn 90 [] []) [s9.2.2.2.2.2.2.1, v19, s9.2.2.1] h18 fun _ h21 =>
pCall c (.fn 90 [] []) [s9.2.2.2.2.2.2.1, s9.2.2.2.1, v13] h21 fun _ h23 =>
pStore h23 s9.2.2.2.2.1 (.bool true) 1 fun h24 =>
some ((.tup []), h24))) fun j11 =>
pWant v8 false (
pLoad1 h7 a2 fun v25 =>
pCall c (.fn 87 [] []) [a0, v5, v25] h7 fun v26 h27 =>
j11 (v26, v8, v5, v4, a3, a2, a0, ()) h27) (
j11 (.undef, v8, v5, v4, a3, a2, a0, ()) h7)
theorem S84_eq (c : CV) (a0 a1 a2 a3 : AV) (h : AH) : enterK Tryz.prog NN P84 c 84 [a0, a1, a2, a3] h = S84 c a0 a1 a2 a3 h := by kernel_rfl
def W84 (c : CV) (l : List AV) (h : AH) : R := match l with | [a0, a1, a2, a3] => S84 c a0 a1 a2 a3 h | _ => none
theorem W84_ok : WOk Tryz.prog 84 W84 := by
  intro c l h r e
  unfold W84 at e
  split at e
  · exact ⟨P84, by rw [S84_eq]; exact e⟩
  · cases e
/- quietus/list.seek -/
def P85 : Pl := (.n none .z (.n none .z (.n none (.n (some [7, 6]) (.n (some [7, 6, 2, 0]) (.n none .z (.n none (.n none .z (.n none (.n none (.r [[22, 16, 7, 6, 2, 0]]) .z) .z)) .z)) .z) .z) .z)))
def S85 (c : CV) (a0 a1 a2 : AV) (h : AH) : R :=
joinC (α := AV × AV × Unit → AH → List Nat → R) (fun s0 h1 d2 =>
pLeave d2 h1 fun h4 =>
some ((.tup [s0.2.1, s0.1]), h4)) fun j3 =>
loopC (σ := AV × AV × AV × AV × Unit) NN (fun i8 s5 h6 d7 =>
pCall c (.fn 141 [] []) [s5.2.2.2.1] h6 fun v9 h10 =>
pCond v9 (
pCall c (.fn 142 [] []) [s5.2.2.2.1, s5.2.1] h10 fun v11 h12 =>
pInt .eql v11 (.int .i64 (.ofNat 0)) fun v13 =>
joinC (α := AV × AV × AV × AV × AV × AV × Unit → AH → R) (fun s14 h15 =>
pPick s14.2.1 (.bool true) s14.1 fun v17 =>
pCond v17 (
j3 (s14.2.2.1, s14.2.2.2.1, ()) h15 d7) (
pInt .add s14.2.2.1 (.int .i64 (.ofNat 1)) fun v18 =>
i8 (s14.2.2.1, v18, s14.2.2.2.2.1, s14.2.2.2.2.2.1, ()) h15 d7)) fun j16 =>
pWant v13 false (
pInt .add v11 (.int .i64 (.ofNat 0)) fun v19 =>
pCall c (.fn 92 [] []) [s5.2.2.2.1, v19] h12 fun v20 h21 =>
pInt .geq v20 s5.2.2.1 fun v22 =>
j16 (v22, v13, v11, s5.2.1, s5.2.2.1, s5.2.2.2.1, ()) h21) (
j16 (.undef, v13, v11, s5.2.1, s5.2.2.1, s5.2.2.2.1, ()) h12)) (
j3 (s5.1, s5.2.1, ()) h10 d7)) ((.int .i64 (.ofNat 0)), a1, a2, a0, ()) h []
theorem S85_eq (c : CV) (a0 a1 a2 : AV) (h : AH) : enterK Tryz.prog NN P85 c 85 [a0, a1, a2] h = S85 c a0 a1 a2 h := by kernel_rfl
def W85 (c : CV) (l : List AV) (h : AH) : R := match l with | [a0, a1, a2] => S85 c a0 a1 a2 h | _ => none
theorem W85_ok : WOk Tryz.prog 85 W85 := by
  intro c l h r e
  unfold W85 at e
  split at e
  · exact ⟨P85, by rw [S85_eq]; exact e⟩
  · cases e
/- (*quietus/draft.Draft).OK -/
def P86 : Pl := .z
def S86 (_ : CV) (a0 : AV) (h : AH) : R :=
pNil a0 fun v0 =>
pFieldA v0 1 fun v1 =>
pLoad1 h v1 fun v2 =>
pInt .eql v2 (.int .i64 (.ofNat 0)) fun v3 =>
some (v3, h)
theorem S86_eq (c : CV) (a0 : AV) (h : AH) : enterK Tryz.prog NN P86 c 86 [a0] h = S86 c a0 h := by kernel_rfl
def W86 (c : CV) (l : List AV) (h : AH) : R := match l with | [a0] => S86 c a0 h | _ => none
theorem W86_ok : WOk Tryz.prog 86 W86 := by
  intro c l h r e
  unfold W86 at e
  split at e
  · exact ⟨P86, by rw [S86_eq]; exact e⟩
  · cases e
/- quietus/list.found -/
def P87 : Pl := (.n none .z (.n none (.r [[11, 9, 2, 1, 0], [19, 13]]) .z))
def S87 (c : CV) (a0 a1 a2 : AV) (h : AH) : R :=
pCall c (.fn 86 [] []) [a0] h fun v0 h1 =>
joinC (α := AV × AV × AV × AV × AV × Unit → AH → R) (fun s2 h3 =>
pPick s2.2.1 s2.1 (.bool false) fun v5 =>
joinC (α := AV × AV × Unit → AH → R) (fun s6 h7 =>
pPick s6.2.1 s6.1 (.bool false) fun v9 =>
some (v9, h7)) fun j8 =>
pWant v5 true (
pInt .add s2.2.2.2.1 (.int .i64 (.ofNat 0)) fun v10 =>
pCall c (.fn 92 [] []) [s2.2.2.2.2.1, v10] h3 fun v11 h12 =>
pInt .eql v11 s2.2.2.1 fun v13 =>
j8 (v13, v5, ()) h12) (
j8 (.undef, v5, ()) h3)) fun j4 =>
pWant v0 true (
pInt .neq a1 (.int .i64 (.ofNat 0)) fun v14 =>
j4 (v14, v0, a2, a1, a0, ()) h1) (
j4 (.undef, v0, a2, a1, a0, ()) h1)
theorem S87_eq (c : CV) (a0 a1 a2 : AV) (h : AH) : enterK Tryz.prog NN P87 c 87 [a0, a1, a2] h = S87 c a0 a1 a2 h := by kernel_rfl
def W87 (c : CV) (l : List AV) (h : AH) : R := match l with | [a0, a1, a2] => S87 c a0 a1 a2 h | _ => none
theorem W87_ok : WOk Tryz.prog 87 W87 := by
  intro c l h r e
  unfold W87 at e
  split at e
  · exact ⟨P87, by rw [S87_eq]; exact e⟩
  · cases e
/- (*quietus/draft.Draft).Alloc -/
def P88 : Pl := .z
def S88 (c : CV) (a0 a1 : AV) (h : AH) : R :=
pCall c (.fn 86 [] []) [a0] h fun v0 h1 =>
pUn .not v0 fun v2 =>
pCond v2 (
some ((.int .i64 (.ofNat 0)), h1)) (
pNil a0 fun v3 =>
pFieldA v3 0 fun v4 =>
pLoad1 h1 v4 fun v5 =>
pCall c (.fn 67 [] []) [v5, a1] h1 fun v6 h7 =>
pExtract v6 0 fun v8 =>
pExtract v6 1 fun v9 =>
pCall c (.fn 143 [] []) [a0, v9] h7 fun _ h11 =>
some (v8, h11))
theorem S88_eq (c : CV) (a0 a1 : AV) (h : AH) : enterK Tryz.prog NN P88 c 88 [a0, a1] h = S88 c a0 a1 h := by kernel_rfl
def W88 (c : CV) (l : List AV) (h : AH) : R := match l with | [a0, a1] => S88 c a0 a1 h | _ => none
theorem W88_ok : WOk Tryz.prog 88 W88 := by
  intro c l h r e
  unfold W88 at e
  split at e
  · exact ⟨P88, by rw [S88_eq]; exact e⟩
  · cases e
/- (*quietus/draft.Draft).Write -/
def P89 : Pl := .z
def S89 (c : CV) (a0 a1 a2 : AV) (h : AH) : R :=
pCall c (.fn 86 [] []) [a0] h fun v0 h1 =>
pCond v0 (
pNil a0 fun v2 =>
pFieldA v2 0 fun v3 =>
pLoad1 h1 v3 fun v4 =>
pCall c (.fn 66 [] []) [v4, a1, a2] h1 fun v5 h6 =>
pCall c (.fn 143 [] []) [a0, v5] h6 fun _ h8 =>
some ((.tup []), h8)) (
some ((.tup []), h1))
theorem S89_eq (c : CV) (a0 a1 a2 : AV) (h : AH) : enterK Tryz.prog NN P89 c 89 [a0, a1, a2] h = S89 c a0 a1 a2 h := by kernel_rfl
def W89 (c : CV) (l : List AV) (h : AH) : R := match l with | [a0, a1, a2] => S89 c a0 a1 a2 h | _ => none
theorem W89_ok : WOk Tryz.prog 89 W89 := by
  intro c l h r e
  unfold W89 at e
  split at e
  · exact ⟨P89, by rw [S89_eq]; exact e⟩
  · cases e
/- (*quietus/draft.Draft).Point -/
def P90 : Pl := .z
def S90 (c : CV) (a0 a1 a2 : AV) (h : AH) : R :=
pConvI .u64 a2 fun v0 =>
pCall c (.fn 89 [] []) [a0, a1, v0] h fun _ h2 =>
some ((.tup []), h2)
theorem S90_eq (c : CV) (a0 a1 a2 : AV) (h : AH) : enterK Tryz.prog NN P90 c 90 [a0, a1, a2] h = S90 c a0 a1 a2 h := by kernel_rfl
def W90 (c : CV) (l : List AV) (h : AH) : R := match l with | [a0, a1, a2] => S90 c a0 a1 a2 h | _ => none
theorem W90_ok : WOk Tryz.prog 90 W90 := by
  intro c l h r e
  unfold W90 at e
  split at e
  · exact ⟨P90, by rw [S90_eq]; exact e⟩
  · cases e
/- quietus/list.Cut$1 -/
def P91 : Pl := .z
def S91 (c : CV) (a0 a1 a2 a3 : AV) (h : AH) : R :=
pLoad1 h a1 fun v0 =>
pLoad1 h a2 fun v1 =>
pCall c (.fn 85 [] []) [a0, v0, v1] h fun v2 h3 =>
pExtract v2 0 fun v4 =>
pExtract v2 1 fun v5 =>
pLoad1 h3 a2 fun v6 =>
pCall c (.fn 87 [] []) [a0, v5, v6] h3 fun v7 h8 =>
pCond v7 (
pInt .add v5 (.int .i64 (.ofNat 1)) fun v9 =>
pCall c (.fn 92 [] []) [a0, v9] h8 fun v10 h11 =>
pCall c (.fn 89 [] []) [a0, v4, v10] h11 fun _ h13 =>
pCall c (.fn 93 [] []) [a0, v5] h13 fun _ h15 =>
pStore h15 a3 (.bool true) 1 fun h16 =>
some ((.tup []), h16)) (
some ((.tup []), h8))
theorem S91_eq (c : CV) (a0 a1 a2 a3 : AV) (h : AH) : enterK Tryz.prog NN P91 c 91 [a0, a1, a2, a3] h = S91 c a0 a1 a2 a3 h := by kernel_rfl
def W91 (c : CV) (l : List AV) (h : AH) : R := match l with | [a0, a1, a2, a3] => S91 c a0 a1 a2 a3 h | _ => none
theorem W91_ok : WOk Tryz.prog 91 W91 := by
  intro c l h r e
  unfold W91 at e
  split at e
  · exact ⟨P91, by rw [S91_eq]; exact e⟩
  · cases e
/- (*quietus/draft.Draft).Read -/
def P92 : Pl := .z
def S92 (c : CV) (a0 a1 : AV) (h : AH) : R :=
pCall c (.fn 86 [] []) [a0] h fun v0 h1 =>
pUn .not v0 fun v2 =>
pCond v2 (
some ((.int .u64 (.ofNat 0)), h1)) (
pNil a0 fun v3 =>
pFieldA v3 0 fun v4 =>
pLoad1 h1 v4 fun v5 =>
pCall c (.fn 65 [] []) [v5, a1] h1 fun v6 h7 =>
pExtract v6 0 fun v8 =>
pExtract v6 1 fun v9 =>
pCall c (.fn 143 [] []) [a0, v9] h7 fun _ h11 =>
some (v8, h11))
theorem S92_eq (c : CV) (a0 a1 : AV) (h : AH) : enterK Tryz.prog NN P92 c 92 [a0, a1] h = S92 c a0 a1 h := by kernel_rfl
def W92 (c : CV) (l : List AV) (h : AH) : R := match l with | [a0, a1] => S92 c a0 a1 h | _ => none
theorem W92_ok : WOk Tryz.prog 92 W92 := by
  intro c l h r e
  unfold W92 at e
  split at e
  · exact ⟨P92, by rw [S92_eq]; exact e⟩
  · cases e
/- (*quietus/draft.Draft).Free -/
def P93 : Pl := .z
def S93 (c : CV) (a0 a1 : AV) (h : AH) : R :=
pCall c (.fn 86 [] []) [a0] h fun v0 h1 =>
pCond v0 (
pNil a0 fun v2 =>
pFieldA v2 0 fun v3 =>
pLoad1 h1 v3 fun v4 =>
pCall c (.fn 68 [] []) [v4, a1] h1 fun v5 h6 =>
pCall c (.fn 143 [] []) [a0, v5] h6 fun _ h8 =>
some ((.tup []), h8)) (
some ((.tup []), h1))
theorem S93_eq (c : CV) (a0 a1 : AV) (h : AH) : enterK Tryz.prog NN P93 c 93 [a0, a1] h = S93 c a0 a1 h := by kernel_rfl
def W93 (c : CV) (l : List AV) (h : AH) : R := match l with | [a0, a1] => S93 c a0 a1 h | _ => none
theorem W93_ok : WOk Tryz.prog 93 W93 := by
  intro c l h r e
  unfold W93 at e
  split at e
  · exact ⟨P93, by rw [S93_eq]; exact e⟩
  · cases e
/- quietus/list.Has$1 -/
def P94 : Pl := .z
def S94 (c : CV) (a0 a1 a2 a3 : AV) (h : AH) : R :=
pLoad1 h a1 fun v0 =>
pLoad1 h a2 fun v1 =>
pCall c (.fn 85 [] []) [a0, v0, v1] h fun v2 h3 =>
pExtract v2 0 fun _ =>
pExtract v2 1 fun v5 =>
pLoad1 h3 a2 fun v6 =>
pCall c (.fn 87 [] []) [a0, v5, v6] h3 fun v7 h8 =>
pStore h8 a3 v7 1 fun h9 =>
some ((.tup []), h9)
theorem S94_eq (c : CV) (a0 a1 a2 a3 : AV) (h : AH) : enterK Tryz.prog NN P94 c 94 [a0, a1, a2, a3] h = S94 c a0 a1 a2 a3 h := by kernel_rfl
def W94 (c : CV) (l : List AV) (h : AH) : R := match l with | [a0, a1, a2, a3] => S94 c a0 a1 a2 a3 h | _ => none
theorem W94_ok : WOk Tryz.prog 94 W94 := by
  intro c l h r e
  unfold W94 at e
  split at e
  · exact ⟨P94, by rw [S94_eq]; exact e⟩
  · cases e
/- quietus/table.Put$1 -/
def P95 : Pl := (.n none .z (.n (some [6, 4, 3, 2, 0]) (.n none (.r [[20, 15, 6, 4, 3, 2, 1, 0]]) .z) (.n none .z (.n none .z (.n none .z (.n (some [7, 6, 4, 3, 2, 0]) (.n none (.r [[53, 43, 7, 6, 4, 3, 2, 0], [60, 55, 7, 6, 4, 3, 2, 0]]) .z) .z))))))
def S95 (c : CV) (a0 a1 a2 a3 a4 : AV) (h : AH) : R :=
pLoad1 h a1 fun v0 =>
pCall c (.fn 96 [] []) [a0, v0] h fun v1 h2 =>
joinC (α := AV × AV × AV × AV × AV × Unit → AH → List Nat → R) (fun s3 h4 d5 =>
pCall c (.fn 86 [] []) [s3.2.2.2.2.1] h4 fun v7 h8 =>
pUn .not v7 fun v9 =>
pCond v9 (
pLeave d5 h8 fun h10 =>
some ((.tup []), h10)) (
pLoad1 h8 s3.2.2.2.1 fun v11 =>
pCall c (.fn 98 [] []) [s3.1, v11] h8 fun v12 h13 =>
pExtract v12 0 fun v14 =>
pExtract v12 1 fun v15 =>
pInt .neq v15 (.int .i64 (.ofNat 0)) fun v16 =>
pCond v16 (
pInt .add v15 (.int .i64 (.ofNat 1)) fun v17 =>
pLoad1 h13 s3.2.2.1 fun v18 =>
pCall c (.fn 89 [] []) [s3.2.2.2.2.1, v17, v18] h13 fun _ h20 =>
pLeave d5 h20 fun h21 =>
some ((.tup []), h21)) (
joinC (α := AV × AV × AV × AV × AV × AV × Unit → AH → List Nat → R) (fun s22 h23 d24 =>
pCall c (.fn 88 [] []) [s22.2.2.2.2.2.1, (.int .i64 (.ofNat 3))] h23 fun v26 h27 =>
pInt .add v26 (.int .i64 (.ofNat 0)) fun v28 =>
pLoad1 h27 s22.2.2.2.2.1 fun v29 =>
pCall c (.fn 89 [] []) [s22.2.2.2.2.2.1, v28, v29] h27 fun _ h31 =>
pInt .add v26 (.int .i64 (.ofNat 1)) fun v32 =>
pLoad1 h31 s22.2.2.2.1 fun v33 =>
pCall c (.fn 89 [] []) [s22.2.2.2.2.2.1, v32, v33] h31 fun _ h35 =>
pInt .add v26 (.int .i64 (.ofNat 2)) fun v36 =>
pCall c (.fn 90 [] []) [s22.2.2.2.2.2.1, v36, (.int .i64 (.ofNat 0))] h35 fun _ h38 =>
pCall c (.fn 90 [] []) [s22.2.2.2.2.2.1, s22.1, v26] h38 fun _ h40 =>
pNil s22.2.1 fun v41 =>
pFieldA v41 1 fun v42 =>
pLoad1 h40 v42 fun v43 =>
pInt .add v43 (.int .i64 (.ofNat 0)) fun v44 =>
pNil s22.2.1 fun v45 =>
pFieldA v45 4 fun v46 =>
pLoad1 h40 v46 fun v47 =>
pInt .add v47 (.int .u64 (.ofNat 1)) fun v48 =>
pCall c (.fn 89 [] []) [s22.2.2.2.2.2.1, v44, v48] h40 fun _ h50 =>
pStore h50 s22.2.2.1 (.bool true) 1 fun h51 =>
pLeave d24 h51 fun h52 =>
some ((.tup []), h52)) fun j25 =>
pCall c (.fn 86 [] []) [s3.2.2.2.2.1] h13 fun v53 h54 =>
joinC (α := AV × AV × AV × AV × AV × AV × AV × AV × Unit → AH → R) (fun s55 h56 =>
pPick s55.2.1 s55.1 (.bool false) fun v58 =>
joinC (α := AV × AV × AV × AV × AV × AV × AV × AV × Unit → AH → R) (fun s59 h60 =>
pPick s59.2.1 s59.1 (.bool false) fun v62 =>
pCond v62 (
pCall c (.fn 99 [] []) [s59.2.2.2.1] h60 fun _ h64 =>
pLoad1 h64 s59.2.2.2.2.2.2.1 fun v65 =>
pCall c (.fn 98 [] []) [s59.2.2.2.1, v65] h64 fun v66 h67 =>
pExtract v66 0 fun v68 =>
pExtract v66 1 fun _ =>
j25 (v68, s59.2.2.2.1, s59.2.2.2.2.1, s59.2.2.2.2.2.1, s59.2.2.2.2.2.2.1, s59.2.2.2.2.2.2.2.1, ()) h67 d5) (
j25 (s59.2.2.1, s59.2.2.2.1, s59.2.2.2.2.1, s59.2.2.2.2.2.1, s59.2.2.2.2.2.2.1, s59.2.2.2.2.2.2.2.1, ()) h60 d5)) fun j61 =>
pWant v58 true (
pNil s55.2.2.2.1 fun v70 =>
pFieldA v70 2 fun v71 =>
pLoad1 h56 v71 fun v72 =>
pInt .lss v72 (.int .i64 (.ofNat 16)) fun v73 =>
j61 (v73, v58, s55.2.2.1, s55.2.2.2.1, s55.2.2.2.2.1, s55.2.2.2.2.2.1, s55.2.2.2.2.2.2.1, s55.2.2.2.2.2.2.2.1, ()) h56) (
j61 (.undef, v58, s55.2.2.1, s55.2.2.2.1, s55.2.2.2.2.1, s55.2.2.2.2.2.1, s55.2.2.2.2.2.2.1, s55.2.2.2.2.2.2.2.1, ()) h56)) fun j57 =>
pWant v53 true (
pNil s3.1 fun v74 =>
pFieldA v74 4 fun v75 =>
pLoad1 h54 v75 fun v76 =>
pNil s3.1 fun v77 =>
pFieldA v77 2 fun v78 =>
pLoad1 h54 v78 fun v79 =>
pConvI .u64 v79 fun v80 =>
pInt .geq v76 v80 fun v81 =>
j57 (v81, v53, v14, s3.1, s3.2.1, s3.2.2.1, s3.2.2.2.1, s3.2.2.2.2.1, ()) h54) (
j57 (.undef, v53, v14, s3.1, s3.2.1, s3.2.2.1, s3.2.2.2.1, s3.2.2.2.2.1, ()) h54)))) fun j6 =>
pCall c (.fn 86 [] []) [a0] h2 fun v82 h83 =>
joinC (α := AV × AV × AV × AV × AV × AV × AV × AV × Unit → AH → R) (fun s84 h85 =>
pPick s84.2.1 s84.1 (.bool false) fun v87 =>
pCond v87 (
pLoad1 h85 s84.2.2.2.2.2.2.1 fun v88 =>
pCall c (.fn 97 [] []) [s84.2.2.2.2.2.2.2.1, v88] h85 fun v89 h90 =>
j6 (v89, s84.2.2.2.1, s84.2.2.2.2.1, s84.2.2.2.2.2.1, s84.2.2.2.2.2.2.2.1, ()) h90 []) (
j6 (s84.2.2.1, s84.2.2.2.1, s84.2.2.2.2.1, s84.2.2.2.2.2.1, s84.2.2.2.2.2.2.2.1, ()) h85 [])) fun j86 =>
pWant v82 true (
pNil v1 fun v91 =>
pFieldA v91 1 fun v92 =>
pLoad1 h83 v92 fun v93 =>
pInt .eql v93 (.int .i64 (.ofNat 0)) fun v94 =>
j86 (v94, v82, v1, a4, a3, a2, a1, a0, ()) h83) (
j86 (.undef, v82, v1, a4, a3, a2, a1, a0, ()) h83)
theorem S95_eq (c : CV) (a0 a1 a2 a3 a4 : AV) (h : AH) : enterK Tryz.prog NN P95 c 95 [a0, a1, a2, a3, a4] h = S95 c a0 a1 a2 a3 a4 h := by kernel_rfl
def W95 (c : CV) (l : List AV) (h : AH) : R := match l with | [a0, a1, a2, a3, a4] => S95 c a0 a1 a2 a3 a4 h | _ => none
theorem W95_ok : WOk Tryz.prog 95 W95 := by
  intro c l h r e
  unfold W95 at e
  split at e
  · exact ⟨P95, by rw [S95_eq]; exact e⟩
  · cases e
/- quietus/table.open -/
def P96 : Pl := (.n none .z (.n none .z (.n none .z (.n none .z (.n none .z (.n (some [6, 5, 0]) (.n none (.r [[40, 38, 6, 5, 0], [47, 42, 6, 5, 0]]) .z) .z))))))
def S96 (c : CV) (a0 a1 : AV) (h : AH) : R :=
pCall c (.fn 142 [] []) [a0, a1] h fun v0 h1 =>
pBuild [.nilp, (.int .i64 (.ofNat 0)), (.int .i64 (.ofNat 0)), (.int .i64 (.ofNat 0)), (.int .u64 (.ofNat 0))] [(0, 1, a0), (1, 1, v0)] fun v2 =>
pBox h1 147 v2 fun v3 h4 =>
pNil v3 fun v5 =>
pFieldA v5 1 fun v6 =>
pLoad1 h4 v6 fun v7 =>
pInt .eql v7 (.int .i64 (.ofNat 0)) fun v8 =>
pCond v8 (
some (v3, h4)) (
pNil v3 fun v9 =>
pFieldA v9 1 fun v10 =>
pLoad1 h4 v10 fun v11 =>
pInt .add v11 (.int .i64 (.ofNat 0)) fun v12 =>
pCall c (.fn 92 [] []) [a0, v12] h4 fun v13 h14 =>
pNil v3 fun v15 =>
pFieldA v15 4 fun v16 =>
pStore h14 v16 v13 1 fun h17 =>
pNil v3 fun v18 =>
pFieldA v18 1 fun v19 =>
pLoad1 h17 v19 fun v20 =>
pInt .add v20 (.int .i64 (.ofNat 1)) fun v21 =>
pCall c (.fn 92 [] []) [a0, v21] h17 fun v22 h23 =>
joinC (α := AV × AV × AV × Unit → AH → List Nat → R) (fun s24 h25 d26 =>
pConvI .i64 s24.1 fun v28 =>
pNil s24.2.1 fun v29 =>
pFieldA v29 1 fun v30 =>
pLoad1 h25 v30 fun v31 =>
pInt .add v31 (.int .i64 (.ofNat 2)) fun v32 =>
pCall c (.fn 142 [] []) [s24.2.2.1, v32] h25 fun v33 h34 =>
pNil s24.2.1 fun v35 =>
pFieldA v35 2 fun v36 =>
pStore h34 v36 v28 1 fun h37 =>
pNil s24.2.1 fun v38 =>
pFieldA v38 3 fun v39 =>
pStore h37 v39 v33 1 fun h40 =>
pLeave d26 h40 fun h41 =>
some (s24.2.1, h41)) fun j27 =>
pInt .lss v22 (.int .u64 (.ofNat 2)) fun v42 =>
joinC (α := AV × AV × AV × AV × AV × Unit → AH → R) (fun s43 h44 =>
pPick s43.2.1 (.bool true) s43.1 fun v46 =>
joinC (α := AV × AV × AV × AV × AV × Unit → AH → R) (fun s47 h48 =>
pPick s47.2.1 (.bool true) s47.1 fun v50 =>
pCond v50 (
pCall c (.fn 143 [] []) [s47.2.2.2.2.1, (.int .i64 (.ofNat 2))] h48 fun _ h52 =>
j27 ((.int .u64 (.ofNat 2)), s47.2.2.2.1, s47.2.2.2.2.1, ()) h52 []) (
j27 (s47.2.2.1, s47.2.2.2.1, s47.2.2.2.2.1, ()) h48 [])) fun j49 =>
pWant v46 false (
pInt .sub s43.2.2.1 (.int .u64 (.ofNat 1)) fun v53 =>
pInt .and s43.2.2.1 v53 fun v54 =>
pInt .neq v54 (.int .u64 (.ofNat 0)) fun v55 =>
j49 (v55, v46, s43.2.2.1, s43.2.2.2.1, s43.2.2.2.2.1, ()) h44) (
j49 (.undef, v46, s43.2.2.1, s43.2.2.2.1, s43.2.2.2.2.1, ()) h44)) fun j45 =>
pWant v42 false (
pInt .gtr v22 (.int .u64 (.ofNat 16)) fun v56 =>
j45 (v56, v42, v22, v3, a0, ()) h23) (
j45 (.undef, v42, v22, v3, a0, ()) h23))
theorem S96_eq (c : CV) (a0 a1 : AV) (h : AH) : enterK Tryz.prog NN P96 c 96 [a0, a1] h = S96 c a0 a1 h := by kernel_rfl
def W96 (c : CV) (l : List AV) (h : AH) : R := match l with | [a0, a1] => S96 c a0 a1 h | _ => none
theorem W96_ok : WOk Tryz.prog 96 W96 := by
  intro c l h r e
  unfold W96 at e
  split at e
  · exact ⟨P96, by rw [S96_eq]; exact e⟩
  · cases e
/- quietus/table.made -/
def P97 : Pl := (.n none .z (.n none .z (.n none (.n none .z (.n none (.n (some [14, 5, 1, 0]) .z .z) .z)) .z)))
def S97 (c : CV) (a0 a1 : AV) (h : AH) : R :=
pCall c (.fn 88 [] []) [a0, (.int .i64 (.ofNat 3))] h fun v0 h1 =>
pCall c (.fn 88 [] []) [a0, (.int .i64 (.ofNat 2))] h1 fun v2 h3 =>
pBuild [.nilp, (.int .i64 (.ofNat 0)), (.int .i64 (.ofNat 0)), (.int .i64 (.ofNat 0)), (.int .u64 (.ofNat 0))] [(0, 1, a0), (1, 1, v0), (2, 1, (.int .i64 (.ofNat 2))), (3, 1, v2)] fun v4 =>
pBox h3 147 v4 fun v5 h6 =>
loopC (σ := AV × AV × AV × AV × Unit) NN (fun i10 s7 h8 d9 =>
pInt .lss s7.1 (.int .i64 (.ofNat 2)) fun v11 =>
pCond v11 (
pNil s7.2.1 fun v12 =>
pFieldA v12 3 fun v13 =>
pLoad1 h8 v13 fun v14 =>
pInt .add v14 s7.1 fun v15 =>
pCall c (.fn 90 [] []) [s7.2.2.2.1, v15, (.int .i64 (.ofNat 0))] h8 fun _ h17 =>
pInt .add s7.1 (.int .i64 (.ofNat 1)) fun v18 =>
i10 (v18, s7.2.1, s7.2.2.1, s7.2.2.2.1, ()) h17 d9) (
pNil s7.2.1 fun v19 =>
pFieldA v19 1 fun v20 =>
pLoad1 h8 v20 fun v21 =>
pInt .add v21 (.int .i64 (.ofNat 0)) fun v22 =>
pCall c (.fn 90 [] []) [s7.2.2.2.1, v22, (.int .i64 (.ofNat 0))] h8 fun _ h24 =>
pNil s7.2.1 fun v25 =>
pFieldA v25 1 fun v26 =>
pLoad1 h24 v26 fun v27 =>
pInt .add v27 (.int .i64 (.ofNat 1)) fun v28 =>
pCall c (.fn 90 [] []) [s7.2.2.2.1, v28, (.int .i64 (.ofNat 2))] h24 fun _ h30 =>
pNil s7.2.1 fun v31 =>
pFieldA v31 1 fun v32 =>
pLoad1 h30 v32 fun v33 =>
pInt .add v33 (.int .i64 (.ofNat 2)) fun v34 =>
pNil s7.2.1 fun v35 =>
pFieldA v35 3 fun v36 =>
pLoad1 h30 v36 fun v37 =>
pCall c (.fn 90 [] []) [s7.2.2.2.1, v34, v37] h30 fun _ h39 =>
pNil s7.2.1 fun v40 =>
pFieldA v40 1 fun v41 =>
pLoad1 h39 v41 fun v42 =>
pCall c (.fn 90 [] []) [s7.2.2.2.1, s7.2.2.1, v42] h39 fun _ h44 =>
pLeave d9 h44 fun h45 =>
some (s7.2.1, h45))) ((.int .i64 (.ofNat 0)), v5, a1, a0, ()) h6 []
theorem S97_eq (c : CV) (a0 a1 : AV) (h : AH) : enterK Tryz.prog NN P97 c 97 [a0, a1] h = S97 c a0 a1 h := by kernel_rfl
def W97 (c : CV) (l : List AV) (h : AH) : R := match l with | [a0, a1] => S97 c a0 a1 h | _ => none
theorem W97_ok : WOk Tryz.prog 97 W97 := by
  intro c l h r e
  unfold W97 at e
  split at e
  · exact ⟨P97, by rw [S97_eq]; exact e⟩
  · cases e
/- (*quietus/table.table).seek -/
def P98 : Pl := (.n none .z (.n none (.r [[4, 1, 0]]) (.n none (.n none (.n (some [4, 1, 0]) (.n none .z (.n none (.n none .z (.n none (.n none (.r [[39, 30, 5, 4, 1, 0]]) .z) .z)) .z)) .z) .z) .z)))
def S98 (c : CV) (a0 a1 : AV) (h : AH) : R :=
joinC (α := AV × AV × AV × Unit → AH → R) (fun s0 h1 =>
loopC (σ := AV × AV × AV × Unit) NN (fun i6 s3 h4 d5 =>
pNil s3.2.2.1 fun v7 =>
pFieldA v7 0 fun v8 =>
pLoad1 h4 v8 fun v9 =>
pCall c (.fn 141 [] []) [v9] h4 fun v10 h11 =>
pCond v10 (
pNil s3.2.2.1 fun v12 =>
pFieldA v12 0 fun v13 =>
pLoad1 h11 v13 fun v14 =>
pCall c (.fn 142 [] []) [v14, s3.1] h11 fun v15 h16 =>
pInt .eql v15 (.int .i64 (.ofNat 0)) fun v17 =>
joinC (α := AV × AV × AV × AV × AV × AV × Unit → AH → R) (fun s18 h19 =>
pPick s18.2.1 (.bool true) s18.1 fun v21 =>
pCond v21 (
pLeave d5 h19 fun h22 =>
some ((.tup [s18.2.2.2.1, s18.2.2.1]), h22)) (
pInt .add s18.2.2.1 (.int .i64 (.ofNat 2)) fun v23 =>
i6 (v23, s18.2.2.2.2.1, s18.2.2.2.2.2.1, ()) h19 d5)) fun j20 =>
pWant v17 false (
pNil s3.2.2.1 fun v24 =>
pFieldA v24 0 fun v25 =>
pLoad1 h16 v25 fun v26 =>
pInt .add v15 (.int .i64 (.ofNat 0)) fun v27 =>
pCall c (.fn 92 [] []) [v26, v27] h16 fun v28 h29 =>
pInt .eql v28 s3.2.1 fun v30 =>
j20 (v30, v17, v15, s3.1, s3.2.1, s3.2.2.1, ()) h29) (
j20 (.undef, v17, v15, s3.1, s3.2.1, s3.2.2.1, ()) h16)) (
pLeave d5 h11 fun h31 =>
some ((.tup [s3.1, (.int .i64 (.ofNat 0))]), h31))) (s0.1, s0.2.1, s0.2.2.1, ()) h1 []) fun j2 =>
pNil a0 fun v32 =>
pFieldA v32 3 fun v33 =>
pLoad1 h v33 fun v34 =>
pNil a0 fun v35 =>
pFieldA v35 2 fun v36 =>
pLoad1 h v36 fun v37 =>
pCall c (.fn 144 [] []) [a1, v37] h fun v38 h39 =>
pInt .add v34 v38 fun v40 =>
pChk v33 none v34 h h39 h.nx <|
j2 (v40, a1, a0, ()) h39
theorem S98_eq (c : CV) (a0 a1 : AV) (h : AH) : enterK Tryz.prog NN P98 c 98 [a0, a1] h = S98 c a0 a1 h := by kernel_rfl
def W98 (c : CV) (l : List AV) (h : AH) : R := match l with | [a0, a1] => S98 c a0 a1 h | _ => none
theorem W98_ok : WOk Tryz.prog 98 W98 := by
  intro c l h r e
  unfold W98 at e
  split at e
  · exact ⟨P98, by rw [S98_eq]; exact e⟩
  · cases e
/- (*quietus/table.table).grow -/
def P99 : Pl := (.n none .z (.n none .z (.n none .z (.n none .z (.n none .z (.n none (.n none .z (.n none (.n (some [25, 24, 23, 4, 2, 1]) .z .z) .z)) (.n none .z (.n none (.r [[4, 2, 1]]) .z))))))))
def S99 (c : CV) (a0 : AV) (h : AH) : R :=
pBox h 144 a0 fun v0 h1 =>
pLoad1 h1 v0 fun v2 =>
pNil v2 fun v3 =>
pFieldA v3 2 fun v4 =>
pLoad1 h1 v4 fun v5 =>
pInt .mul (.int .i64 (.ofNat 2)) v5 fun v6 =>
pBox h1 3 (.int .i64 (.ofNat 0)) fun v7 h8 =>
pStore h8 v7 v6 1 fun h9 =>
pLoad1 h9 v7 fun v10 =>
pMake h9 3 [(.int .i64 (.ofNat 0))] v10 v10 fun v11 h12 =>
pBox h12 50 .nils fun v13 h14 =>
pStore h14 v13 v11 1 fun h15 =>
pLoad1 h15 v0 fun v16 =>
pNil v16 fun v17 =>
pFieldA v17 0 fun v18 =>
pLoad1 h15 v18 fun v19 =>
pLoad1 h15 v7 fun v20 =>
pCall c (.fn 88 [] []) [v19, v20] h15 fun v21 h22 =>
pLoad1 h22 v0 fun v23 =>
pCall c (.fn 145 [] []) [v23, (.fn 146 [] [v0, v7, v13])] h22 fun _ h25 =>
pLoad1 h25 v13 fun v26 =>
pLenS v26 fun v27 =>
loopC (σ := AV × AV × AV × AV × AV × AV × Unit) NN (fun i31 s28 h29 d30 =>
pInt .lss s28.1 s28.2.1 fun v32 =>
pCond v32 (
pIdxS s28.2.2.1 s28.1 1 fun v33 =>
pLoad1 h29 v33 fun v34 =>
pLoad1 h29 s28.2.2.2.2.2.1 fun v35 =>
pNil v35 fun v36 =>
pFieldA v36 0 fun v37 =>
pLoad1 h29 v37 fun v38 =>
pInt .add s28.2.2.2.1 s28.1 fun v39 =>
pCall c (.fn 90 [] []) [v38, v39, v34] h29 fun _ h41 =>
pInt .add s28.1 (.int .i64 (.ofNat 1)) fun v42 =>
i31 (v42, s28.2.1, s28.2.2.1, s28.2.2.2.1, s28.2.2.2.2.1, s28.2.2.2.2.2.1, ()) h41 d30) (
pLoad1 h29 s28.2.2.2.2.2.1 fun v43 =>
pNil v43 fun v44 =>
pFieldA v44 0 fun v45 =>
pLoad1 h29 v45 fun v46 =>
pLoad1 h29 s28.2.2.2.2.2.1 fun v47 =>
pNil v47 fun v48 =>
pFieldA v48 3 fun v49 =>
pLoad1 h29 v49 fun v50 =>
pCall c (.fn 93 [] []) [v46, v50] h29 fun _ h52 =>
joinC (α := AV × AV × AV × Unit → AH → R) (fun s53 h54 =>
pLoad1 h54 s53.2.2.1 fun v56 =>
pNil v56 fun v57 =>
pFieldA v57 0 fun v58 =>
pLoad1 h54 v58 fun v59 =>
pLoad1 h54 s53.2.2.1 fun v60 =>
pNil v60 fun v61 =>
pFieldA v61 1 fun v62 =>
pLoad1 h54 v62 fun v63 =>
pInt .add v63 (.int .i64 (.ofNat 1)) fun v64 =>
pLoad1 h54 s53.2.1 fun v65 =>
pCall c (.fn 90 [] []) [v59, v64, v65] h54 fun _ h67 =>
pLoad1 h67 s53.2.2.1 fun v68 =>
pNil v68 fun v69 =>
pFieldA v69 0 fun v70 =>
pLoad1 h67 v70 fun v71 =>
pLoad1 h67 s53.2.2.1 fun v72 =>
pNil v72 fun v73 =>
pFieldA v73 1 fun v74 =>
pLoad1 h67 v74 fun v75 =>
pInt .add v75 (.int .i64 (.ofNat 2)) fun v76 =>
pCall c (.fn 90 [] []) [v71, v76, s53.1] h67 fun _ h78 =>
pLeave d30 h78 fun h79 =>
some ((.tup []), h79)) fun j55 =>
pLoad1 h52 s28.2.2.2.2.2.1 fun v80 =>
pLoad1 h52 s28.2.2.2.2.2.1 fun v81 =>
pLoad1 h52 s28.2.2.2.2.1 fun v82 =>
pNil v80 fun v83 =>
pFieldA v83 2 fun v84 =>
pStore h52 v84 v82 1 fun h85 =>
pNil v81 fun v86 =>
pFieldA v86 3 fun v87 =>
pStore h85 v87 s28.2.2.2.1 1 fun h88 =>
pChk s28.2.2.2.2.2.1 none v81 h52 h85 h52.nx <|
j55 (s28.2.2.2.1, s28.2.2.2.2.1, s28.2.2.2.2.2.1, ()) h88)) ((.int .i64 (.ofNat 0)), v27, v26, v21, v7, v0, ()) h25 []
theorem S99_eq (c : CV) (a0 : AV) (h : AH) : enterK Tryz.prog NN P99 c 99 [a0] h = S99 c a0 h := by kernel_rfl
def W99 (c : CV) (l : List AV) (h : AH) : R := match l with | [a0] => S99 c a0 h | _ => none
theorem W99_ok : WOk Tryz.prog 99 W99 := by
  intro c l h r e
  unfold W99 at e
  split at e
  · exact ⟨P99, by rw [S99_eq]; exact e⟩
  · cases e
/- (*quietus/interp.Interp).number$1 -/
def P100 : Pl := (.n none .z (.n none .z (.n none (.n none (.r [[20, 13, 4, 3, 1, 0], [25, 22, 4, 3, 0], [31, 25, 22, 4, 3, 0], [32, 22, 4, 3, 0]]) .z) .z)))
def S100 (c : CV) (a0 a1 a2 a3 a4 : AV) (h : AH) : R :=
pInt .neq a2 (.int .i64 (.ofNat 0)) fun v0 =>
pCond v0 (
some (a2, h)) (
joinC (α := AV × AV × AV × AV × AV × AV × Unit → AH → R) (fun s1 h2 =>
pPick s1.2.1 s1.1 (.bool false) fun v4 =>
joinC (α := AV × AV × AV × AV × AV × Unit → AH → R) (fun s5 h6 =>
joinC (α := AV × AV × AV × AV × AV × AV × Unit → AH → R) (fun s8 h9 =>
joinC (α := AV × AV × AV × AV × AV × Unit → AH → R) (fun s11 h12 =>
pPick s11.2.1 (.bool true) s11.1 fun v14 =>
pCond v14 (
some ((.int .i64 (.ofNat 5)), h12)) (
pLoad1 h12 s11.2.2.2.1 fun v15 =>
pFieldA s11.2.2.1 3 fun v16 =>
pLoad1 h12 v16 fun v17 =>
pNil v15 fun v18 =>
pFieldA v18 6 fun v19 =>
pIdxP v19 v17 8 1 fun v20 =>
pStore h12 v20 s11.2.2.2.2.1 1 fun h21 =>
some ((.int .i64 (.ofNat 0)), h21))) fun j13 =>
pWant s8.2.2.1 false (
pPick s8.2.1 s8.1 (.bool false) fun v22 =>
j13 (v22, s8.2.2.1, s8.2.2.2.1, s8.2.2.2.2.1, s8.2.2.2.2.2.1, ()) h9) (
j13 (.undef, s8.2.2.1, s8.2.2.2.1, s8.2.2.2.2.1, s8.2.2.2.2.2.1, ()) h9)) fun j10 =>
pWant s5.1 true (
pLoad1 h6 s5.2.2.2.1 fun v23 =>
pNil v23 fun v24 =>
pFieldA v24 14 fun v25 =>
pLoad1 h6 v25 fun v26 =>
pCall c (.fn 101 [] []) [v26] h6 fun v27 h28 =>
pUn .not v27 fun v29 =>
j10 (v29, s5.1, s5.2.1, s5.2.2.1, s5.2.2.2.1, s5.2.2.2.2.1, ()) h28) (
j10 (.undef, s5.1, s5.2.1, s5.2.2.1, s5.2.2.2.1, s5.2.2.2.2.1, ()) h6)) fun j7 =>
pWant v4 false (
pUn .not s1.2.2.2.2.1 fun v30 =>
j7 (v30, v4, s1.2.2.1, s1.2.2.2.1, s1.2.2.2.2.2.1, ()) h2) (
j7 (.undef, v4, s1.2.2.1, s1.2.2.2.1, s1.2.2.2.2.2.1, ()) h2)) fun j3 =>
pWant a1 true (
pLoad1 h a3 fun v31 =>
pNil v31 fun v32 =>
pFieldA v32 14 fun v33 =>
pLoad1 h v33 fun v34 =>
pCall c (.fn 35 [] []) [v34, a0] h fun v35 h36 =>
pUn .not v35 fun v37 =>
j3 (v37, a1, a4, a3, a1, a0, ()) h36) (
j3 (.undef, a1, a4, a3, a1, a0, ()) h))
theorem S100_eq (c : CV) (a0 a1 a2 a3 a4 : AV) (h : AH) : enterK Tryz.prog NN P100 c 100 [a0, a1, a2, a3, a4] h = S100 c a0 a1 a2 a3 a4 h := by kernel_rfl
def W100 (c : CV) (l : List AV) (h : AH) : R := match l with | [a0, a1, a2, a3, a4] => S100 c a0 a1 a2 a3 a4 h | _ => none
theorem W100_ok : WOk Tryz.prog 100 W100 := by
  intro c l h r e
  unfold W100 at e
  split at e
  · exact ⟨P100, by rw [S100_eq]; exact e⟩
  · cases e
/- (*quietus/slate.Slate).AddNone -/
def P101 : Pl := .z
def S101 (c : CV) (a0 : AV) (h : AH) : R :=
pBuild [] [] fun v0 =>
pCall c (.fn 49 [] []) [a0, (.iface 179 v0)] h fun v1 h2 =>
some (v1, h2)
theorem S101_eq (c : CV) (a0 : AV) (h : AH) : enterK Tryz.prog NN P101 c 101 [a0] h = S101 c a0 h := by kernel_rfl
def W101 (c : CV) (l : List AV) (h : AH) : R := match l with | [a0] => S101 c a0 h | _ => none
theorem W101_ok : WOk Tryz.prog 101 W101 := by
  intro c l h r e
  unfold W101 at e
  split at e
  · exact ⟨P101, by rw [S101_eq]; exact e⟩
  · cases e
/- quietus/table.Get$1 -/
def P102 : Pl := (.n none .z (.n none (.n none (.r [[20, 15, 6, 4, 3, 2, 0]]) .z) .z))
def S102 (c : CV) (a0 a1 a2 a3 a4 : AV) (h : AH) : R :=
pLoad1 h a1 fun v0 =>
pCall c (.fn 96 [] []) [a0, v0] h fun v1 h2 =>
pCall c (.fn 86 [] []) [a0] h2 fun v3 h4 =>
pUn .not v3 fun v5 =>
joinC (α := AV × AV × AV × AV × AV × AV × AV × Unit → AH → R) (fun s6 h7 =>
pPick s6.2.1 (.bool true) s6.1 fun v9 =>
pCond v9 (
some ((.tup []), h7)) (
pLoad1 h7 s6.2.2.2.2.2.1 fun v10 =>
pCall c (.fn 98 [] []) [s6.2.2.1, v10] h7 fun v11 h12 =>
pExtract v11 0 fun _ =>
pExtract v11 1 fun v14 =>
pInt .neq v14 (.int .i64 (.ofNat 0)) fun v15 =>
pCond v15 (
pInt .add v14 (.int .i64 (.ofNat 1)) fun v16 =>
pCall c (.fn 92 [] []) [s6.2.2.2.2.2.2.1, v16] h12 fun v17 h18 =>
pStore h18 s6.2.2.2.2.1 v17 1 fun h19 =>
pStore h19 s6.2.2.2.1 (.bool true) 1 fun h20 =>
some ((.tup []), h20)) (
some ((.tup []), h12)))) fun j8 =>
pWant v5 false (
pNil v1 fun v21 =>
pFieldA v21 1 fun v22 =>
pLoad1 h4 v22 fun v23 =>
pInt .eql v23 (.int .i64 (.ofNat 0)) fun v24 =>
j8 (v24, v5, v1, a4, a3, a2, a0, ()) h4) (
j8 (.undef, v5, v1, a4, a3, a2, a0, ()) h4)
theorem S102_eq (c : CV) (a0 a1 a2 a3 a4 : AV) (h : AH) : enterK Tryz.prog NN P102 c 102 [a0, a1, a2, a3, a4] h = S102 c a0 a1 a2 a3 a4 h := by kernel_rfl
def W102 (c : CV) (l : List AV) (h : AH) : R := match l with | [a0, a1, a2, a3, a4] => S102 c a0 a1 a2 a3 a4 h | _ => none
theorem W102_ok : WOk Tryz.prog 102 W102 := by
  intro c l h r e
  unfold W102 at e
  split at e
  · exact ⟨P102, by rw [S102_eq]; exact e⟩
  · cases e
/- quietus/table.Del$1 -/
def P103 : Pl := (.n none .z (.n none (.n none (.r [[19, 14, 5, 3, 2, 0]]) .z) .z))
def S103 (c : CV) (a0 a1 a2 a3 : AV) (h : AH) : R :=
pLoad1 h a1 fun v0 =>
pCall c (.fn 96 [] []) [a0, v0] h fun v1 h2 =>
pCall c (.fn 86 [] []) [a0] h2 fun v3 h4 =>
pUn .not v3 fun v5 =>
joinC (α := AV × AV × AV × AV × AV × AV × Unit → AH → R) (fun s6 h7 =>
pPick s6.2.1 (.bool true) s6.1 fun v9 =>
pCond v9 (
some ((.tup []), h7)) (
pLoad1 h7 s6.2.2.2.2.1 fun v10 =>
pCall c (.fn 98 [] []) [s6.2.2.1, v10] h7 fun v11 h12 =>
pExtract v11 0 fun v13 =>
pExtract v11 1 fun v14 =>
pInt .neq v14 (.int .i64 (.ofNat 0)) fun v15 =>
pCond v15 (
pInt .add v14 (.int .i64 (.ofNat 2)) fun v16 =>
pCall c (.fn 92 [] []) [s6.2.2.2.2.2.1, v16] h12 fun v17 h18 =>
pCall c (.fn 89 [] []) [s6.2.2.2.2.2.1, v13, v17] h18 fun _ h20 =>
pNil s6.2.2.1 fun v21 =>
pFieldA v21 1 fun v22 =>
pLoad1 h20 v22 fun v23 =>
pInt .add v23 (.int .i64 (.ofNat 0)) fun v24 =>
pNil s6.2.2.1 fun v25 =>
pFieldA v25 4 fun v26 =>
pLoad1 h20 v26 fun v27 =>
pInt .sub v27 (.int .u64 (.ofNat 1)) fun v28 =>
pCall c (.fn 89 [] []) [s6.2.2.2.2.2.1, v24, v28] h20 fun _ h30 =>
pCall c (.fn 93 [] []) [s6.2.2.2.2.2.1, v14] h30 fun _ h32 =>
pStore h32 s6.2.2.2.1 (.bool true) 1 fun h33 =>
some ((.tup []), h33)) (
some ((.tup []), h12)))) fun j8 =>
pWant v5 false (
pNil v1 fun v34 =>
pFieldA v34 1 fun v35 =>
pLoad1 h4 v35 fun v36 =>
pInt .eql v36 (.int .i64 (.ofNat 0)) fun v37 =>
j8 (v37, v5, v1, a3, a2, a0, ()) h4) (
j8 (.undef, v5, v1, a3, a2, a0, ()) h4)
theorem S103_eq (c : CV) (a0 a1 a2 a3 : AV) (h : AH) : enterK Tryz.prog NN P103 c 103 [a0, a1, a2, a3] h = S103 c a0 a1 a2 a3 h := by kernel_rfl
def W103 (c : CV) (l : List AV) (h : AH) : R := match l with | [a0, a1, a2, a3] => S103 c a0 a1 a2 a3 h | _ => none
theorem W103_ok : WOk Tryz.prog 103 W103 := by
  intro c l h r e
  unfold W103 at e
  split at e
  · exact ⟨P103, by rw [S103_eq]; exact e⟩
  · cases e
/- quietus/queue.Push -/
def P104 : Pl := .z
def S104 (c : CV) (a0 a1 a2 : AV) (h : AH) : R :=
pBox h 3 a1 fun v0 h1 =>
pBox h1 26 a2 fun v2 h3 =>
pLoad1 h3 v0 fun v4 =>
pCall c (.fn 83 [] []) [a0, v4, (.fn 147 [] [v0, v2])] h3 fun v5 h6 =>
some (v5, h6)
theorem S104_eq (c : CV) (a0 a1 a2 : AV) (h : AH) : enterK Tryz.prog NN P104 c 104 [a0, a1, a2] h = S104 c a0 a1 a2 h := by kernel_rfl
def W104 (c : CV) (l : List AV) (h : AH) : R := match l with | [a0, a1, a2] => S104 c a0 a1 a2 h | _ => none
theorem W104_ok : WOk Tryz.prog 104 W104 := by
  intro c l h r e
  unfold W104 at e
  split at e
  · exact ⟨P104, by rw [S104_eq]; exact e⟩
  · cases e
/- quietus/queue.Take -/
def P105 : Pl := .z
def S105 (c : CV) (a0 a1 : AV) (h : AH) : R :=
pBox h 3 a1 fun v0 h1 =>
pBox h1 26 (.int .u64 (.ofNat 0)) fun v2 h3 =>
pBox h3 4 (.bool false) fun v4 h5 =>
pStore h5 v2 (.int .u64 (.ofNat 0)) 1 fun h6 =>
pStore h6 v4 (.bool false) 1 fun h7 =>
pLoad1 h7 v0 fun v8 =>
pCall c (.fn 83 [] []) [a0, v8, (.fn 148 [] [v0, v2, v4])] h7 fun v9 h10 =>
pInt .neq v9 (.int .i64 (.ofNat 0)) fun v11 =>
pCond v11 (
some ((.tup [(.int .u64 (.ofNat 0)), (.bool false), v9]), h10)) (
pLoad1 h10 v2 fun v12 =>
pLoad1 h10 v4 fun v13 =>
some ((.tup [v12, v13, (.int .i64 (.ofNat 0))]), h10))
theorem S105_eq (c : CV) (a0 a1 : AV) (h : AH) : enterK Tryz.prog NN P105 c 105 [a0, a1] h = S105 c a0 a1 h := by kernel_rfl
def W105 (c : CV) (l : List AV) (h : AH) : R := match l with | [a0, a1] => S105 c a0 a1 h | _ => none
theorem W105_ok : WOk Tryz.prog 105 W105 := by
  intro c l h r e
  unfold W105 at e
  split at e
  · exact ⟨P105, by rw [S105_eq]; exact e⟩
  · cases e
/- quietus/tree.Put$1 -/
def P106 : Pl := .z
def S106 (c : CV) (a0 a1 a2 a3 a4 : AV) (h : AH) : R :=
pLoad1 h a1 fun v0 =>
pBuild [.nilp, (.int .i64 (.ofNat 0)), .nils] [(0, 1, a0), (1, 1, v0)] fun v1 =>
pBox h 154 v1 fun v2 h3 =>
pLoad1 h3 a2 fun v4 =>
pCall c (.fn 107 [] []) [v2, v4] h3 fun v5 h6 =>
pCall c (.fn 86 [] []) [a0] h6 fun v7 h8 =>
pUn .not v7 fun v9 =>
pCond v9 (
some ((.tup []), h8)) (
pInt .neq v5 (.int .i64 (.ofNat 0)) fun v10 =>
pCond v10 (
pInt .add v5 (.int .i64 (.ofNat 1)) fun v11 =>
pLoad1 h8 a3 fun v12 =>
pCall c (.fn 89 [] []) [a0, v11, v12] h8 fun _ h14 =>
some ((.tup []), h14)) (
pCall c (.fn 88 [] []) [a0, (.int .i64 (.ofNat 4))] h8 fun v15 h16 =>
pInt .add v15 (.int .i64 (.ofNat 0)) fun v17 =>
pLoad1 h16 a2 fun v18 =>
pCall c (.fn 89 [] []) [a0, v17, v18] h16 fun _ h20 =>
pInt .add v15 (.int .i64 (.ofNat 1)) fun v21 =>
pLoad1 h20 a3 fun v22 =>
pCall c (.fn 89 [] []) [a0, v21, v22] h20 fun _ h24 =>
pInt .add v15 (.int .i64 (.ofNat 2)) fun v25 =>
pCall c (.fn 89 [] []) [a0, v25, (.int .u64 (.ofNat 1))] h24 fun _ h27 =>
pInt .add v15 (.int .i64 (.ofNat 3)) fun v28 =>
pCall c (.fn 90 [] []) [a0, v28, (.int .i64 (.ofNat 0))] h27 fun _ h30 =>
pNil v2 fun v31 =>
pFieldA v31 2 fun v32 =>
pLoad1 h30 v32 fun v33 =>
pLenS v33 fun v34 =>
pCall c (.fn 108 [] []) [v2, v34, v15] h30 fun _ h36 =>
pCall c (.fn 109 [] []) [v2] h36 fun _ h38 =>
pStore h38 a4 (.bool true) 1 fun h39 =>
some ((.tup []), h39)))
theorem S106_eq (c : CV) (a0 a1 a2 a3 a4 : AV) (h : AH) : enterK Tryz.prog NN P106 c 106 [a0, a1, a2, a3, a4] h = S106 c a0 a1 a2 a3 a4 h := by kernel_rfl
def W106 (c : CV) (l : List AV) (h : AH) : R := match l with | [a0, a1, a2, a3, a4] => S106 c a0 a1 a2 a3 a4 h | _ => none
theorem W106_ok : WOk Tryz.prog 106 W106 := by
  intro c l h r e
  unfold W106 at e
  split at e
  · exact ⟨P106, by rw [S106_eq]; exact e⟩
  · cases e
/- (*quietus/tree.tree).seek -/
def P107 : Pl := (.n none .z (.n none .z (.n none (.n none .z (.n none (.n (some [5, 1, 0]) (.n none (.n none (.r [[20, 15, 5, 1, 0]]) .z) (.n none (.n none .z (.n none .z (.n none .z (.n (some [7, 5, 1, 0]) .z .z)))) .z)) .z) .z)) .z)))
def S107 (c : CV) (a0 a1 : AV) (h : AH) : R :=
pNil a0 fun v0 =>
pFieldA v0 2 fun v1 =>
pStore h v1 .nils 1 fun h2 =>
pCall c (.fn 115 [] []) [a0] h2 fun v3 h4 =>
loopC (σ := AV × AV × AV × Unit) NN (fun i8 s5 h6 d7 =>
pInt .neq s5.1 (.int .i64 (.ofNat 0)) fun v9 =>
joinC (α := AV × AV × AV × AV × AV × Unit → AH → R) (fun s10 h11 =>
pPick s10.2.1 s10.1 (.bool false) fun v13 =>
pCond v13 (
pNil s10.2.2.2.2.1 fun v14 =>
pFieldA v14 0 fun v15 =>
pLoad1 h11 v15 fun v16 =>
pInt .add s10.2.2.1 (.int .i64 (.ofNat 0)) fun v17 =>
pCall c (.fn 92 [] []) [v16, v17] h11 fun v18 h19 =>
pInt .eql v18 s10.2.2.2.1 fun v20 =>
pCond v20 (
pLeave d7 h19 fun h21 =>
some (s10.2.2.1, h21)) (
joinC (α := AV × AV × AV × AV × Unit → AH → List Nat → R) (fun s22 h23 d24 =>
pNil s22.2.2.2.1 fun v26 =>
pFieldA v26 2 fun v27 =>
pLoad1 h23 v27 fun v28 =>
pBuild [(.int .i64 (.ofNat 0)), (.int .i64 (.ofNat 0))] [(0, 1, s22.2.1), (1, 1, s22.1)] fun v29 =>
pBuildS h23 181 [(.int .i64 (.ofNat 0)), (.int .i64 (.ofNat 0))] 1 [(0, 2, v29)] fun v30 h31 =>
pAppend h31 181 2 v28 v30 fun v32 h33 =>
pNil s22.2.2.2.1 fun v34 =>
pFieldA v34 2 fun v35 =>
pStore h33 v35 v32 1 fun h36 =>
pCall c (.fn 149 [] []) [s22.2.2.2.1, s22.2.1, s22.1] h36 fun v37 h38 =>
i8 (v37, s22.2.2.1, s22.2.2.2.1, ()) h38 d24) fun j25 =>
pInt .gtr s10.2.2.2.1 v18 fun v39 =>
pCond v39 (
j25 ((.int .i64 (.ofNat 1)), s10.2.2.1, s10.2.2.2.1, s10.2.2.2.2.1, ()) h19 d7) (
j25 ((.int .i64 (.ofNat 0)), s10.2.2.1, s10.2.2.2.1, s10.2.2.2.2.1, ()) h19 d7))) (
pLeave d7 h11 fun h40 =>
some ((.int .i64 (.ofNat 0)), h40))) fun j12 =>
pWant v9 true (
pNil s5.2.2.1 fun v41 =>
pFieldA v41 0 fun v42 =>
pLoad1 h6 v42 fun v43 =>
pCall c (.fn 141 [] []) [v43] h6 fun v44 h45 =>
j12 (v44, v9, s5.1, s5.2.1, s5.2.2.1, ()) h45) (
j12 (.undef, v9, s5.1, s5.2.1, s5.2.2.1, ()) h6)) (v3, a1, a0, ()) h4 []
theorem S107_eq (c : CV) (a0 a1 : AV) (h : AH) : enterK Tryz.prog NN P107 c 107 [a0, a1] h = S107 c a0 a1 h := by kernel_rfl
def W107 (c : CV) (l : List AV) (h : AH) : R := match l with | [a0, a1] => S107 c a0 a1 h | _ => none
theorem W107_ok : WOk Tryz.prog 107 W107 := by
  intro c l h r e
  unfold W107 at e
  split at e
  · exact ⟨P107, by rw [S107_eq]; exact e⟩
  · cases e
/- (*quietus/tree.tree).link -/
def P108 : Pl := .z
def S108 (c : CV) (a0 a1 a2 : AV) (h : AH) : R :=
pInt .eql a1 (.int .i64 (.ofNat 0)) fun v0 =>
pCond v0 (
pNil a0 fun v1 =>
pFieldA v1 0 fun v2 =>
pLoad1 h v2 fun v3 =>
pNil a0 fun v4 =>
pFieldA v4 1 fun v5 =>
pLoad1 h v5 fun v6 =>
pCall c (.fn 90 [] []) [v3, v6, a2] h fun _ h8 =>
some ((.tup []), h8)) (
pNil a0 fun v9 =>
pFieldA v9 2 fun v10 =>
pLoad1 h v10 fun v11 =>
pInt .sub a1 (.int .i64 (.ofNat 1)) fun v12 =>
pIdxS v11 v12 2 fun v13 =>
pFieldA v13 0 fun v14 =>
pLoad1 h v14 fun v15 =>
pNil a0 fun v16 =>
pFieldA v16 2 fun v17 =>
pLoad1 h v17 fun v18 =>
pInt .sub a1 (.int .i64 (.ofNat 1)) fun v19 =>
pIdxS v18 v19 2 fun v20 =>
pFieldA v20 1 fun v21 =>
pLoad1 h v21 fun v22 =>
pCall c (.fn 150 [] []) [a0, v15, v22, a2] h fun _ h24 =>
some ((.tup []), h24))
theorem S108_eq (c : CV) (a0 a1 a2 : AV) (h : AH) : enterK Tryz.prog NN P108 c 108 [a0, a1, a2] h = S108 c a0 a1 a2 h := by kernel_rfl
def W108 (c : CV) (l : List AV) (h : AH) : R := match l with | [a0, a1, a2] => S108 c a0 a1 a2 h | _ => none
theorem W108_ok : WOk Tryz.prog 108 W108 := by
  intro c l h r e
  unfold W108 at e
  split at e
  · exact ⟨P108, by rw [S108_eq]; exact e⟩
  · cases e
/- (*quietus/tree.tree).raised -/
def P109 : Pl := (.n none (.n none (.n (some [0]) (.n none (.n none (.r [[17, 12, 0]]) .z) (.n none (.n none .z (.n none (.r [[4, 3, 2, 0]]) .z)) .z)) .z) .z) (.n none (.r [[92, 87, 0]]) .z))
def S109 (c : CV) (a0 : AV) (h : AH) : R :=
loopC (σ := AV × Unit) NN (fun i3 s0 h1 d2 =>
pNil s0.1 fun v4 =>
pFieldA v4 2 fun v5 =>
pLoad1 h1 v5 fun v6 =>
pLenS v6 fun v7 =>
pInt .geq v7 (.int .i64 (.ofNat 2)) fun v8 =>
joinC (α := AV × AV × AV × Unit → AH → R) (fun s9 h10 =>
pPick s9.2.1 s9.1 (.bool false) fun v12 =>
pCond v12 (
pNil s9.2.2.1 fun v13 =>
pFieldA v13 2 fun v14 =>
pLoad1 h10 v14 fun v15 =>
pLenS v15 fun v16 =>
joinC (α := AV × AV × AV × AV × Unit → AH → R) (fun s17 h18 =>
pFieldA s17.2.1 0 fun v20 =>
pLoad1 h18 v20 fun v21 =>
pCall c (.fn 151 [] []) [s17.2.2.2.1, v21] h18 fun v22 h23 =>
pUn .not v22 fun v24 =>
pCond v24 (
pLeave d2 h23 fun h25 =>
some ((.tup []), h25)) (
pFieldA s17.1 0 fun v26 =>
pLoad1 h23 v26 fun v27 =>
pFieldA s17.1 1 fun v28 =>
pLoad1 h23 v28 fun v29 =>
pInt .sub (.int .i64 (.ofNat 1)) v29 fun v30 =>
pCall c (.fn 149 [] []) [s17.2.2.2.1, v27, v30] h23 fun v31 h32 =>
pCall c (.fn 151 [] []) [s17.2.2.2.1, v31] h32 fun v33 h34 =>
pUn .not v33 fun v35 =>
pCond v35 (
pLoadN h34 s17.2.1 2 fun v36 =>
pLoadN h34 s17.1 2 fun v37 =>
pCall c (.fn 152 [] []) [s17.2.2.2.1, v36, v37] h34 fun _ h39 =>
pLeave d2 h39 fun h40 =>
some ((.tup []), h40)) (
pFieldA s17.2.1 0 fun v41 =>
pLoad1 h34 v41 fun v42 =>
pCall c (.fn 153 [] []) [s17.2.2.2.1, v42, (.bool false)] h34 fun _ h44 =>
pCall c (.fn 153 [] []) [s17.2.2.2.1, v31, (.bool false)] h44 fun _ h46 =>
pFieldA s17.1 0 fun v47 =>
pLoad1 h46 v47 fun v48 =>
pCall c (.fn 153 [] []) [s17.2.2.2.1, v48, (.bool true)] h46 fun _ h50 =>
pNil s17.2.2.2.1 fun v51 =>
pFieldA v51 2 fun v52 =>
pLoad1 h50 v52 fun v53 =>
pInt .sub s17.2.2.1 (.int .i64 (.ofNat 2)) fun v54 =>
pSlice h50 181 2 v53 none (some v54) fun v55 =>
pNil s17.2.2.2.1 fun v56 =>
pFieldA v56 2 fun v57 =>
pStore h50 v57 v55 1 fun h58 =>
i3 (s17.2.2.2.1, ()) h58 d2))) fun j19 =>
pNil s9.2.2.1 fun v59 =>
pFieldA v59 2 fun v60 =>
pLoad1 h10 v60 fun v61 =>
pInt .sub v16 (.int .i64 (.ofNat 1)) fun v62 =>
pIdxS v61 v62 2 fun v63 =>
pLoadN h10 v63 2 fun v64 =>
pNil s9.2.2.1 fun v65 =>
pFieldA v65 2 fun v66 =>
pLoad1 h10 v66 fun v67 =>
pInt .sub v16 (.int .i64 (.ofNat 2)) fun v68 =>
pIdxS v67 v68 2 fun v69 =>
pLoadN h10 v69 2 fun v70 =>
pBox h10 181 (.agg [(.int .i64 (.ofNat 0)), (.int .i64 (.ofNat 0))]) fun v71 h72 =>
pBox h72 181 (.agg [(.int .i64 (.ofNat 0)), (.int .i64 (.ofNat 0))]) fun v73 h74 =>
pStore h74 v71 v64 2 fun h75 =>
pStore h75 v73 v70 2 fun h76 =>
pChk v69 (some 2) v70 h74 h75 h10.nx <|
pChk v66 none v67 h74 h75 h10.nx <|
j19 (v73, v71, v16, s9.2.2.1, ()) h76) (
pNil s9.2.2.1 fun v77 =>
pFieldA v77 2 fun v78 =>
pLoad1 h10 v78 fun v79 =>
pLenS v79 fun v80 =>
pInt .lss v80 (.int .i64 (.ofNat 2)) fun v81 =>
joinC (α := AV × AV × AV × Unit → AH → R) (fun s82 h83 =>
pPick s82.2.1 s82.1 (.bool false) fun v85 =>
pCond v85 (
pCall c (.fn 115 [] []) [s82.2.2.1] h83 fun v86 h87 =>
pCall c (.fn 153 [] []) [s82.2.2.1, v86, (.bool false)] h87 fun _ h89 =>
pLeave d2 h89 fun h90 =>
some ((.tup []), h90)) (
pLeave d2 h83 fun h91 =>
some ((.tup []), h91))) fun j84 =>
pWant v81 true (
pNil s9.2.2.1 fun v92 =>
pFieldA v92 0 fun v93 =>
pLoad1 h10 v93 fun v94 =>
pCall c (.fn 86 [] []) [v94] h10 fun v95 h96 =>
j84 (v95, v81, s9.2.2.1, ()) h96) (
j84 (.undef, v81, s9.2.2.1, ()) h10))) fun j11 =>
pWant v8 true (
pNil s0.1 fun v97 =>
pFieldA v97 0 fun v98 =>
pLoad1 h1 v98 fun v99 =>
pCall c (.fn 141 [] []) [v99] h1 fun v100 h101 =>
j11 (v100, v8, s0.1, ()) h101) (
j11 (.undef, v8, s0.1, ()) h1)) (a0, ()) h []
theorem S109_eq (c : CV) (a0 : AV) (h : AH) : enterK Tryz.prog NN P109 c 109 [a0] h = S109 c a0 h := by kernel_rfl
def W109 (c : CV) (l : List AV) (h : AH) : R := match l with | [a0] => S109 c a0 h | _ => none
theorem W109_ok : WOk Tryz.prog 109 W109 := by
  intro c l h r e
  unfold W109 at e
  split at e
  · exact ⟨P109, by rw [S109_eq]; exact e⟩
  · cases e
/- quietus/tree.Get$1 -/
def P110 : Pl := .z
def S110 (c : CV) (a0 a1 a2 a3 a4 : AV) (h : AH) : R :=
pLoad1 h a1 fun v0 =>
pBuild [.nilp, (.int .i64 (.ofNat 0)), .nils] [(0, 1, a0), (1, 1, v0)] fun v1 =>
pBox h 154 v1 fun v2 h3 =>
pLoad1 h3 a2 fun v4 =>
pCall c (.fn 107 [] []) [v2, v4] h3 fun v5 h6 =>
pInt .neq v5 (.int .i64 (.ofNat 0)) fun v7 =>
pCond v7 (
pInt .add v5 (.int .i64 (.ofNat 1)) fun v8 =>
pCall c (.fn 92 [] []) [a0, v8] h6 fun v9 h10 =>
pStore h10 a3 v9 1 fun h11 =>
pStore h11 a4 (.bool true) 1 fun h12 =>
some ((.tup []), h12)) (
some ((.tup []), h6))
theorem S110_eq (c : CV) (a0 a1 a2 a3 a4 : AV) (h : AH) : enterK Tryz.prog NN P110 c 110 [a0, a1, a2, a3, a4] h = S110 c a0 a1 a2 a3 a4 h := by kernel_rfl
def W110 (c : CV) (l : List AV) (h : AH) : R := match l with | [a0, a1, a2, a3, a4] => S110 c a0 a1 a2 a3 a4 h | _ => none
theorem W110_ok : WOk Tryz.prog 110 W110 := by
  intro c l h r e
  unfold W110 at e
  split at e
  · exact ⟨P110, by rw [S110_eq]; exact e⟩
  · cases e
/- quietus/tree.Del$1 -/
def P111 : Pl := (.n none .z (.n none .z (.n none (.r [[18, 16, 6, 5, 3]]) .z)))
def S111 (c : CV) (a0 a1 a2 a3 : AV) (h : AH) : R :=
pLoad1 h a1 fun v0 =>
pBuild [.nilp, (.int .i64 (.ofNat 0)), .nils] [(0, 1, a0), (1, 1, v0)] fun v1 =>
pBox h 154 v1 fun v2 h3 =>
pLoad1 h3 a2 fun v4 =>
pCall c (.fn 107 [] []) [v2, v4] h3 fun v5 h6 =>
pInt .neq v5 (.int .i64 (.ofNat 0)) fun v7 =>
joinC (α := AV × AV × AV × AV × AV × Unit → AH → R) (fun s8 h9 =>
pPick s8.2.1 s8.1 (.bool false) fun v11 =>
pCond v11 (
pCall c (.fn 112 [] []) [s8.2.2.2.1, s8.2.2.1] h9 fun _ h13 =>
pStore h13 s8.2.2.2.2.1 (.bool true) 1 fun h14 =>
some ((.tup []), h14)) (
some ((.tup []), h9))) fun j10 =>
pWant v7 true (
pCall c (.fn 86 [] []) [a0] h6 fun v15 h16 =>
j10 (v15, v7, v5, v2, a3, ()) h16) (
j10 (.undef, v7, v5, v2, a3, ()) h6)
theorem S111_eq (c : CV) (a0 a1 a2 a3 : AV) (h : AH) : enterK Tryz.prog NN P111 c 111 [a0, a1, a2, a3] h = S111 c a0 a1 a2 a3 h := by kernel_rfl
def W111 (c : CV) (l : List AV) (h : AH) : R := match l with | [a0, a1, a2, a3] => S111 c a0 a1 a2 a3 h | _ => none
theorem W111_ok : WOk Tryz.prog 111 W111 := by
  intro c l h r e
  unfold W111 at e
  split at e
  · exact ⟨P111, by rw [S111_eq]; exact e⟩
  · cases e
/- (*quietus/tree.tree).cut -/
def P112 : Pl := (.n (some [1, 0]) (.n none (.r [[15, 11, 1, 0]]) (.n none (.n none .z (.n none (.r [[4, 1, 0]]) (.n none (.r [[4, 0]]) .z))) .z)) (.n none .z (.n (some [5, 1, 0]) .z (.n none .z (.n none .z (.n none (.n (some [1, 0]) .z .z) .z))))))
def S112 (c : CV) (a0 a1 : AV) (h : AH) : R :=
joinC (α := AV × AV × Unit → AH → List Nat → R) (fun s0 h1 d2 =>
pCall c (.fn 149 [] []) [s0.2.1, s0.1, (.int .i64 (.ofNat 0))] h1 fun v4 h5 =>
joinC (α := AV × AV × AV × Unit → AH → List Nat → R) (fun s6 h7 d8 =>
pCall c (.fn 151 [] []) [s6.2.2.1, s6.2.1] h7 fun v10 h11 =>
pNil s6.2.2.1 fun v12 =>
pFieldA v12 2 fun v13 =>
pLoad1 h11 v13 fun v14 =>
pLenS v14 fun v15 =>
pCall c (.fn 108 [] []) [s6.2.2.1, v15, s6.1] h11 fun _ h17 =>
joinC (α := AV × AV × Unit → AH → List Nat → R) (fun s18 h19 d20 =>
pNil s18.2.1 fun v22 =>
pFieldA v22 0 fun v23 =>
pLoad1 h19 v23 fun v24 =>
pCall c (.fn 93 [] []) [v24, s18.1] h19 fun _ h26 =>
pLeave d20 h26 fun h27 =>
some ((.tup []), h27)) fun j21 =>
pCond v10 (
j21 (s6.2.1, s6.2.2.1, ()) h17 d8) (
pCall c (.fn 151 [] []) [s6.2.2.1, s6.1] h17 fun v28 h29 =>
pCond v28 (
pCall c (.fn 153 [] []) [s6.2.2.1, s6.1, (.bool false)] h29 fun _ h31 =>
j21 (s6.2.1, s6.2.2.1, ()) h31 d8) (
pCall c (.fn 155 [] []) [s6.2.2.1] h29 fun _ h33 =>
j21 (s6.2.1, s6.2.2.1, ()) h33 d8))) fun j9 =>
pInt .eql v4 (.int .i64 (.ofNat 0)) fun v34 =>
pCond v34 (
pCall c (.fn 149 [] []) [s0.2.1, s0.1, (.int .i64 (.ofNat 1))] h5 fun v35 h36 =>
j9 (v35, s0.1, s0.2.1, ()) h36 d2) (
j9 (v4, s0.1, s0.2.1, ()) h5 d2)) fun j3 =>
pCall c (.fn 149 [] []) [a0, a1, (.int .i64 (.ofNat 0))] h fun v37 h38 =>
pInt .neq v37 (.int .i64 (.ofNat 0)) fun v39 =>
joinC (α := AV × AV × AV × AV × Unit → AH → R) (fun s40 h41 =>
pPick s40.2.1 s40.1 (.bool false) fun v43 =>
pCond v43 (
pCall c (.fn 154 [] []) [s40.2.2.2.1, s40.2.2.1] h41 fun v44 h45 =>
joinC (α := AV × AV × AV × Unit → AH → R) (fun s46 h47 =>
joinC (α := AV × AV × Unit → AH → R) (fun s49 h50 =>
j3 (s49.1, s49.2.1, ()) h50 []) fun j51 =>
pNil s46.2.2.1 fun v52 =>
pFieldA v52 0 fun v53 =>
pLoad1 h47 v53 fun v54 =>
pInt .add s46.2.1 (.int .i64 (.ofNat 1)) fun v55 =>
pNil s46.2.2.1 fun v56 =>
pFieldA v56 0 fun v57 =>
pLoad1 h47 v57 fun v58 =>
pInt .add s46.1 (.int .i64 (.ofNat 1)) fun v59 =>
pCall c (.fn 92 [] []) [v58, v59] h47 fun v60 h61 =>
pCall c (.fn 89 [] []) [v54, v55, v60] h61 fun _ h63 =>
pChk v53 none v54 h47 h61 h47.nx <|
j51 (s46.1, s46.2.2.1, ()) h63) fun j48 =>
pNil s40.2.2.2.1 fun v64 =>
pFieldA v64 0 fun v65 =>
pLoad1 h45 v65 fun v66 =>
pInt .add s40.2.2.1 (.int .i64 (.ofNat 0)) fun v67 =>
pNil s40.2.2.2.1 fun v68 =>
pFieldA v68 0 fun v69 =>
pLoad1 h45 v69 fun v70 =>
pInt .add v44 (.int .i64 (.ofNat 0)) fun v71 =>
pCall c (.fn 92 [] []) [v70, v71] h45 fun v72 h73 =>
pCall c (.fn 89 [] []) [v66, v67, v72] h73 fun _ h75 =>
pChk v65 none v66 h45 h73 h45.nx <|
j48 (v44, s40.2.2.1, s40.2.2.2.1, ()) h75) (
j3 (s40.2.2.1, s40.2.2.2.1, ()) h41 [])) fun j42 =>
pWant v39 true (
pCall c (.fn 149 [] []) [a0, a1, (.int .i64 (.ofNat 1))] h38 fun v76 h77 =>
pInt .neq v76 (.int .i64 (.ofNat 0)) fun v78 =>
j42 (v78, v39, a1, a0, ()) h77) (
j42 (.undef, v39, a1, a0, ()) h38)
theorem S112_eq (c : CV) (a0 a1 : AV) (h : AH) : enterK Tryz.prog NN P112 c 112 [a0, a1] h = S112 c a0 a1 h := by kernel_rfl
def W112 (c : CV) (l : List AV) (h : AH) : R := match l with | [a0, a1] => S112 c a0 a1 h | _ => none
theorem W112_ok : WOk Tryz.prog 112 W112 := by
  intro c l h r e
  unfold W112 at e
  split at e
  · exact ⟨P112, by rw [S112_eq]; exact e⟩
  · cases e
/- quietus/tree.Range$1 -/
def P113 : Pl := (.n none .z (.r [[]]))
def S113 (c : CV) (a0 a1 a2 a3 a4 : AV) (h : AH) : R :=
pLoad1 h a1 fun v0 =>
pBuild [.nilp, (.int .i64 (.ofNat 0)), .nils] [(0, 1, a0), (1, 1, v0)] fun v1 =>
pBox h 154 v1 fun v2 h3 =>
joinC (α := Unit → AH → R) (fun _ h5 =>
some ((.tup []), h5)) fun j6 =>
pCall c (.fn 115 [] []) [v2] h3 fun v7 h8 =>
pLoad1 h8 a2 fun v9 =>
pLoad1 h8 a3 fun v10 =>
pCall c (.fn 114 [] []) [v2, v7, v9, v10, .nils] h8 fun v11 h12 =>
pStore h12 a4 v11 1 fun h13 =>
pChk a3 none v10 h3 h8 h3.nx <|
pChk a2 none v9 h3 h8 h3.nx <|
j6 (()) h13
theorem S113_eq (c : CV) (a0 a1 a2 a3 a4 : AV) (h : AH) : enterK Tryz.prog NN P113 c 113 [a0, a1, a2, a3, a4] h = S113 c a0 a1 a2 a3 a4 h := by kernel_rfl
def W113 (c : CV) (l : List AV) (h : AH) : R := match l with | [a0, a1, a2, a3, a4] => S113 c a0 a1 a2 a3 a4 h | _ => none
theorem W113_ok : WOk Tryz.prog 113 W113 := by
  intro c l h r e
  unfold W113 at e
  split at e
  · exact ⟨P113, by rw [S113_eq]; exact e⟩
  · cases e
/- (*quietus/tree.tree).between -/
def P114 : Pl := (.n none .z (.n none (.n none (.r [[20, 14, 4, 3, 2, 1, 0]]) .z) (.n none .z (.n (some [11, 4, 3, 2, 1, 0]) .z (.n (some [11, 4, 3, 2, 1, 0]) (.n none (.r [[47, 44, 11, 4, 3, 2, 1, 0]]) .z) (.n (some [4]) .z .z))))))
def S114 (c : CV) (a0 a1 a2 a3 a4 : AV) (h : AH) : R :=
pInt .eql a1 (.int .i64 (.ofNat 0)) fun v0 =>
joinC (α := AV × AV × AV × AV × AV × AV × AV × Unit → AH → R) (fun s1 h2 =>
pPick s1.2.1 (.bool true) s1.1 fun v4 =>
pCond v4 (
some (s1.2.2.1, h2)) (
pNil s1.2.2.2.2.2.2.1 fun v5 =>
pFieldA v5 0 fun v6 =>
pLoad1 h2 v6 fun v7 =>
pInt .add s1.2.2.2.2.2.1 (.int .i64 (.ofNat 0)) fun v8 =>
pCall c (.fn 92 [] []) [v7, v8] h2 fun v9 h10 =>
joinC (α := AV × AV × AV × AV × AV × AV × Unit → AH → List Nat → R) (fun s11 h12 d13 =>
joinC (α := AV × AV × AV × AV × AV × AV × Unit → AH → List Nat → R) (fun s15 h16 d17 =>
joinC (α := AV × Unit → AH → List Nat → R) (fun s19 h20 d21 =>
pLeave d21 h20 fun h23 =>
some (s19.1, h23)) fun j22 =>
pInt .lss s15.1 s15.2.2.1 fun v24 =>
pCond v24 (
pCall c (.fn 149 [] []) [s15.2.2.2.2.2.1, s15.2.2.2.2.1, (.int .i64 (.ofNat 1))] h16 fun v25 h26 =>
pCall c (.fn 114 [] []) [s15.2.2.2.2.2.1, v25, s15.2.2.2.1, s15.2.2.1, s15.2.1] h26 fun v27 h28 =>
j22 (v27, ()) h28 d17) (
j22 (s15.2.1, ()) h16 d17)) fun j18 =>
pInt .leq s11.2.2.2.1 s11.1 fun v29 =>
joinC (α := AV × AV × AV × AV × AV × AV × AV × AV × Unit → AH → R) (fun s30 h31 =>
pPick s30.2.1 s30.1 (.bool false) fun v33 =>
pCond v33 (
pNil s30.2.2.2.2.2.2.2.1 fun v34 =>
pFieldA v34 0 fun v35 =>
pLoad1 h31 v35 fun v36 =>
pInt .add s30.2.2.2.2.2.2.1 (.int .i64 (.ofNat 1)) fun v37 =>
pCall c (.fn 92 [] []) [v36, v37] h31 fun v38 h39 =>
pBuild [(.int .u64 (.ofNat 0)), (.int .u64 (.ofNat 0))] [(0, 1, s30.2.2.1), (1, 1, v38)] fun v40 =>
pBuildS h39 187 [(.int .u64 (.ofNat 0)), (.int .u64 (.ofNat 0))] 1 [(0, 2, v40)] fun v41 h42 =>
pAppend h42 187 2 s30.2.2.2.1 v41 fun v43 h44 =>
j18 (s30.2.2.1, v43, s30.2.2.2.2.1, s30.2.2.2.2.2.1, s30.2.2.2.2.2.2.1, s30.2.2.2.2.2.2.2.1, ()) h44 d13) (
j18 (s30.2.2.1, s30.2.2.2.1, s30.2.2.2.2.1, s30.2.2.2.2.2.1, s30.2.2.2.2.2.2.1, s30.2.2.2.2.2.2.2.1, ()) h31 d13)) fun j32 =>
pWant v29 true (
pInt .leq s11.1 s11.2.2.1 fun v45 =>
j32 (v45, v29, s11.1, s11.2.1, s11.2.2.1, s11.2.2.2.1, s11.2.2.2.2.1, s11.2.2.2.2.2.1, ()) h12) (
j32 (.undef, v29, s11.1, s11.2.1, s11.2.2.1, s11.2.2.2.1, s11.2.2.2.2.1, s11.2.2.2.2.2.1, ()) h12)) fun j14 =>
pInt .lss s1.2.2.2.2.1 v9 fun v46 =>
pCond v46 (
pCall c (.fn 149 [] []) [s1.2.2.2.2.2.2.1, s1.2.2.2.2.2.1, (.int .i64 (.ofNat 0))] h10 fun v47 h48 =>
pCall c (.fn 114 [] []) [s1.2.2.2.2.2.2.1, v47, s1.2.2.2.2.1, s1.2.2.2.1, s1.2.2.1] h48 fun v49 h50 =>
j14 (v9, v49, s1.2.2.2.1, s1.2.2.2.2.1, s1.2.2.2.2.2.1, s1.2.2.2.2.2.2.1, ()) h50 []) (
j14 (v9, s1.2.2.1, s1.2.2.2.1, s1.2.2.2.2.1, s1.2.2.2.2.2.1, s1.2.2.2.2.2.2.1, ()) h10 []))) fun j3 =>
pWant v0 false (
pNil a0 fun v51 =>
pFieldA v51 0 fun v52 =>
pLoad1 h v52 fun v53 =>
pCall c (.fn 141 [] []) [v53] h fun v54 h55 =>
pUn .not v54 fun v56 =>
j3 (v56, v0, a4, a3, a2, a1, a0, ()) h55) (
j3 (.undef, v0, a4, a3, a2, a1, a0, ()) h)
theorem S114_eq (c : CV) (a0 a1 a2 a3 a4 : AV) (h : AH) : enterK Tryz.prog NN P114 c 114 [a0, a1, a2, a3, a4] h = S114 c a0 a1 a2 a3 a4 h := by kernel_rfl
def W114 (c : CV) (l : List AV) (h : AH) : R := match l with | [a0, a1, a2, a3, a4] => S114 c a0 a1 a2 a3 a4 h | _ => none
theorem W114_ok : WOk Tryz.prog 114 W114 := by
  intro c l h r e
  unfold W114 at e
  split at e
  · exact ⟨P114, by rw [S114_eq]; exact e⟩
  · cases e
/- (*quietus/tree.tree).top -/
def P115 : Pl := .z
def S115 (c : CV) (a0 : AV) (h : AH) : R :=
pNil a0 fun v0 =>
pFieldA v0 0 fun v1 =>
pLoad1 h v1 fun v2 =>
pNil a0 fun v3 =>
pFieldA v3 1 fun v4 =>
pLoad1 h v4 fun v5 =>
pCall c (.fn 142 [] []) [v2, v5] h fun v6 h7 =>
some (v6, h7)
theorem S115_eq (c : CV) (a0 : AV) (h : AH) : enterK Tryz.prog NN P115 c 115 [a0] h = S115 c a0 h := by kernel_rfl
def W115 (c : CV) (l : List AV) (h : AH) : R := match l with | [a0] => S115 c a0 h | _ => none
theorem W115_ok : WOk Tryz.prog 115 W115 := by
  intro c l h r e
  unfold W115 at e
  split at e
  · exact ⟨P115, by rw [S115_eq]; exact e⟩
  · cases e
/- (*quietus/levels.Levels).Get -/
def P116 : Pl := (.n none .z (.n none (.n none .z (.n none (.n (some [5, 4, 3]) .z .z) .z)) .z))
def S116 (c : CV) (a0 a1 : AV) (h : AH) : R :=
pBox h 3 a1 fun v0 h1 =>
pBox h1 26 (.int .u64 (.ofNat 0)) fun v2 h3 =>
pBox h3 4 (.bool false) fun v4 h5 =>
pNil a0 fun v6 =>
pFieldA v6 1 fun v7 =>
pLoad1 h5 v7 fun v8 =>
pCall c (.fn 156 [] []) [v8] h5 fun v9 h10 =>
pCallF c v9 [.yield (h10.new .dfd).nx] ((h10.new .dfd).new (.loop .ready none 116 [1, 0, 1, 0] [5, 4, 3] [v4, v2, v0] h10.nx)) fun _ h11 =>
pEndLoop h11 (h10.new .dfd).nx fun p13 h12 =>
pNone p13 (
pStore h12 v2 (.int .u64 (.ofNat 0)) 1 fun h14 =>
pStore h14 v4 (.bool false) 1 fun h15 =>
pLeave (h10.nx :: []) h15 fun h16 =>
pLoad1 h16 v2 fun v17 =>
pLoad1 h16 v4 fun v18 =>
some ((.tup [v17, v18]), h16)) <|
pIs p13 .ret (
pLeave (h10.nx :: []) h12 fun h19 =>
pLoad1 h19 v2 fun v20 =>
pLoad1 h19 v4 fun v21 =>
some ((.tup [v20, v21]), h19)) <|
none
theorem S116_eq (c : CV) (a0 a1 : AV) (h : AH) : enterK Tryz.prog NN P116 c 116 [a0, a1] h = S116 c a0 a1 h := by kernel_rfl
def W116 (c : CV) (l : List AV) (h : AH) : R := match l with | [a0, a1] => S116 c a0 a1 h | _ => none
theorem W116_ok : WOk Tryz.prog 116 W116 := by
  intro c l h r e
  unfold W116 at e
  split at e
  · exact ⟨P116, by rw [S116_eq]; exact e⟩
  · cases e
/- (*quietus/levels.Levels).Put -/
def P117 : Pl := (.n none .z (.n none (.n none (.r [[14, 12, 2, 1, 0]]) .z) (.n none .z (.n none (.n none .z (.n none (.r [[32, 29, 7, 2, 1]]) .z)) .z))))
def S117 (c : CV) (a0 a1 a2 : AV) (h : AH) : R :=
pInt .lss a1 (.int .i64 (.ofNat 1)) fun v0 =>
joinC (α := AV × AV × AV × AV × AV × Unit → AH → R) (fun s1 h2 =>
pPick s1.2.1 (.bool true) s1.1 fun v4 =>
pCond v4 (
some ((.int .i64 (.ofNat 2)), h2)) (
pCall c (.fn 158 [] []) [s1.2.2.2.2.1] h2 fun v5 h6 =>
pNil v5 fun v7 =>
pFieldA v7 0 fun v8 =>
pLoad1 h6 v8 fun v9 =>
pCall c (.fn 157 [] []) [v9, s1.2.2.2.1] h6 fun v10 h11 =>
pExtract v10 0 fun _ =>
pExtract v10 1 fun v13 =>
pUn .not v13 fun v14 =>
joinC (α := AV × AV × AV × AV × AV × Unit → AH → R) (fun s15 h16 =>
pPick s15.2.1 s15.1 (.bool false) fun v18 =>
pCond v18 (
some ((.int .i64 (.ofNat 5)), h16)) (
pCall c (.fn 160 [] []) [s15.2.2.1, s15.2.2.2.2.1, s15.2.2.2.1] h16 fun v19 h20 =>
some (v19, h20))) fun j17 =>
pWant v14 true (
pCall c (.fn 159 [] []) [s1.2.2.2.2.1] h11 fun v21 h22 =>
pInt .eql v21 (.int .i64 (.ofNat 0)) fun v23 =>
j17 (v23, v14, v9, s1.2.2.1, s1.2.2.2.1, ()) h22) (
j17 (.undef, v14, v9, s1.2.2.1, s1.2.2.2.1, ()) h11))) fun j3 =>
pWant v0 false (
pInt .geq a1 (.int .i64 (.ofNat 256)) fun v24 =>
j3 (v24, v0, a2, a1, a0, ()) h) (
j3 (.undef, v0, a2, a1, a0, ()) h)
theorem S117_eq (c : CV) (a0 a1 a2 : AV) (h : AH) : enterK Tryz.prog NN P117 c 117 [a0, a1, a2] h = S117 c a0 a1 a2 h := by kernel_rfl
def W117 (c : CV) (l : List AV) (h : AH) : R := match l with | [a0, a1, a2] => S117 c a0 a1 a2 h | _ => none
theorem W117_ok : WOk Tryz.prog 117 W117 := by
  intro c l h r e
  unfold W117 at e
  split at e
  · exact ⟨P117, by rw [S117_eq]; exact e⟩
  · cases e
/- quietus/arena.Class -/
def P118 : Pl := (.n none .z (.n none .z (.n none (.n none .z (.n none (.n (some [3, 0]) .z .z) .z)) .z)))
def S118 (c : CV) (a0 : AV) (h : AH) : R :=
pInt .lss a0 (.int .i64 (.ofNat 1)) fun v0 =>
pCond v0 (
some ((.int .i64 (.ofNat 0)), h)) (
loopC (σ := AV × AV × Unit) NN (fun i4 s1 h2 d3 =>
pInt .leq s1.1 (.int .i64 (.ofNat 4)) fun v5 =>
pCond v5 (
pCall c (.fn 161 [] []) [s1.1] h2 fun v6 h7 =>
pInt .geq v6 s1.2.1 fun v8 =>
pCond v8 (
pLeave d3 h7 fun h9 =>
some (s1.1, h9)) (
pInt .add s1.1 (.int .i64 (.ofNat 1)) fun v10 =>
i4 (v10, s1.2.1, ()) h7 d3)) (
pLeave d3 h2 fun h11 =>
some ((.int .i64 (.ofNat 0)), h11))) ((.int .i64 (.ofNat 1)), a0, ()) h [])
theorem S118_eq (c : CV) (a0 : AV) (h : AH) : enterK Tryz.prog NN P118 c 118 [a0] h = S118 c a0 h := by kernel_rfl
def W118 (c : CV) (l : List AV) (h : AH) : R := match l with | [a0] => S118 c a0 h | _ => none
theorem W118_ok : WOk Tryz.prog 118 W118 := by
  intro c l h r e
  unfold W118 at e
  split at e
  · exact ⟨P118, by rw [S118_eq]; exact e⟩
  · cases e
/- quietus/arena.head -/
def P119 : Pl := .z
def S119 (_ : CV) (a0 : AV) (h : AH) : R :=
pInt .add (.int .i64 (.ofNat 0)) a0 fun v0 =>
some (v0, h)
theorem S119_eq (c : CV) (a0 : AV) (h : AH) : enterK Tryz.prog NN P119 c 119 [a0] h = S119 c a0 h := by kernel_rfl
def W119 (c : CV) (l : List AV) (h : AH) : R := match l with | [a0] => S119 c a0 h | _ => none
theorem W119_ok : WOk Tryz.prog 119 W119 := by
  intro c l h r e
  unfold W119 at e
  split at e
  · exact ⟨P119, by rw [S119_eq]; exact e⟩
  · cases e
/- quietus/arena.again -/
def P120 : Pl := (.n none .z (.n none .z (.n none .z (.n none .z (.n (some [10, 8]) .z .z)))))
def S120 (c : CV) (a0 a1 a2 : AV) (h : AH) : R :=
pInt .geq a2 (.int .u64 (.ofNat 2147483648)) fun v0 =>
pCond v0 (
some ((.tup [(.int .i64 (.ofNat 0)), (.int .i64 (.ofNat 2))]), h)) (
pConvI .i64 a2 fun v1 =>
pCall c (.fn 65 [] []) [a0, v1] h fun v2 h3 =>
pExtract v2 0 fun v4 =>
pExtract v2 1 fun v5 =>
joinC (α := AV × AV × Unit → AH → List Nat → R) (fun s6 h7 d8 =>
pInt .neq s6.1 (.int .i64 (.ofNat 0)) fun v10 =>
pCond v10 (
pLeave d8 h7 fun h11 =>
some ((.tup [(.int .i64 (.ofNat 0)), s6.1]), h11)) (
pLeave d8 h7 fun h12 =>
some ((.tup [s6.2.1, (.int .i64 (.ofNat 0))]), h12))) fun j9 =>
pInt .eql v5 (.int .i64 (.ofNat 0)) fun v13 =>
pCond v13 (
pCall c (.fn 119 [] []) [a1] h3 fun v14 h15 =>
pBuild [(.int .i64 (.ofNat 0)), (.int .u64 (.ofNat 0))] [(0, 1, v14), (1, 1, v4)] fun v16 =>
pInt .sub v1 (.int .i64 (.ofNat 1)) fun v17 =>
pInt .add a1 (.int .i64 (.ofNat 8)) fun v18 =>
pConvI .u64 v18 fun v19 =>
pBuild [(.int .i64 (.ofNat 0)), (.int .u64 (.ofNat 0))] [(0, 1, v17), (1, 1, v19)] fun v20 =>
pBuildS h15 74 [(.int .i64 (.ofNat 0)), (.int .u64 (.ofNat 0))] 2 [(0, 2, v16), (2, 2, v20)] fun v21 h22 =>
pCall c (.fn 123 [] []) [a0, v21] h22 fun v23 h24 =>
j9 (v23, v1, ()) h24 []) (
j9 (v5, v1, ()) h3 []))
theorem S120_eq (c : CV) (a0 a1 a2 : AV) (h : AH) : enterK Tryz.prog NN P120 c 120 [a0, a1, a2] h = S120 c a0 a1 a2 h := by kernel_rfl
def W120 (c : CV) (l : List AV) (h : AH) : R := match l with | [a0, a1, a2] => S120 c a0 a1 a2 h | _ => none
theorem W120_ok : WOk Tryz.prog 120 W120 := by
  intro c l h r e
  unfold W120 at e
  split at e
  · exact ⟨P120, by rw [S120_eq]; exact e⟩
  · cases e
/- quietus/arena.grown -/
def P121 : Pl := (.n none .z (.n none .z (.n none .z (.n none (.n none (.r [[22, 20, 6, 1, 0], [33, 24, 6, 1, 0]]) .z) .z))))
def S121 (c : CV) (a0 a1 : AV) (h : AH) : R :=
pCall c (.fn 65 [] []) [a0, (.int .i64 (.ofNat 5))] h fun v0 h1 =>
pExtract v0 0 fun v2 =>
pExtract v0 1 fun v3 =>
pInt .neq v3 (.int .i64 (.ofNat 0)) fun v4 =>
pCond v4 (
some ((.tup [(.int .i64 (.ofNat 0)), v3]), h1)) (
pInt .lss v2 (.int .u64 (.ofNat 14)) fun v5 =>
joinC (α := AV × AV × AV × AV × AV × Unit → AH → R) (fun s6 h7 =>
pPick s6.2.1 (.bool true) s6.1 fun v9 =>
joinC (α := AV × AV × AV × AV × AV × Unit → AH → R) (fun s10 h11 =>
pPick s10.2.1 (.bool true) s10.1 fun v13 =>
pCond v13 (
some ((.tup [(.int .i64 (.ofNat 0)), (.int .i64 (.ofNat 4))]), h11)) (
pConvI .i64 s10.2.2.1 fun v14 =>
pInt .add v14 (.int .i64 (.ofNat 1)) fun v15 =>
pCall c (.fn 161 [] []) [s10.2.2.2.1] h11 fun v16 h17 =>
pInt .add v15 v16 fun v18 =>
pConvI .u64 v18 fun v19 =>
pBuild [(.int .i64 (.ofNat 0)), (.int .u64 (.ofNat 0))] [(0, 1, (.int .i64 (.ofNat 5))), (1, 1, v19)] fun v20 =>
pInt .add s10.2.2.2.1 (.int .i64 (.ofNat 8)) fun v21 =>
pConvI .u64 v21 fun v22 =>
pBuild [(.int .i64 (.ofNat 0)), (.int .u64 (.ofNat 0))] [(0, 1, v14), (1, 1, v22)] fun v23 =>
pBuildS h17 74 [(.int .i64 (.ofNat 0)), (.int .u64 (.ofNat 0))] 2 [(0, 2, v20), (2, 2, v23)] fun v24 h25 =>
pCall c (.fn 123 [] []) [s10.2.2.2.2.1, v24] h25 fun v26 h27 =>
pInt .neq v26 (.int .i64 (.ofNat 0)) fun v28 =>
pCond v28 (
some ((.tup [(.int .i64 (.ofNat 0)), v26]), h27)) (
pInt .add v14 (.int .i64 (.ofNat 1)) fun v29 =>
some ((.tup [v29, (.int .i64 (.ofNat 0))]), h27)))) fun j12 =>
pWant v9 false (
pConvI .i64 s6.2.2.1 fun v30 =>
pInt .add v30 (.int .i64 (.ofNat 1)) fun v31 =>
pCall c (.fn 161 [] []) [s6.2.2.2.1] h7 fun v32 h33 =>
pInt .add v31 v32 fun v34 =>
pCall c (.fn 162 [] []) [s6.2.2.2.2.1] h33 fun v35 h36 =>
pInt .gtr v34 v35 fun v37 =>
j12 (v37, v9, s6.2.2.1, s6.2.2.2.1, s6.2.2.2.2.1, ()) h36) (
j12 (.undef, v9, s6.2.2.1, s6.2.2.2.1, s6.2.2.2.2.1, ()) h7)) fun j8 =>
pWant v5 false (
pInt .geq v2 (.int .u64 (.ofNat 2147483648)) fun v38 =>
j8 (v38, v5, v2, a1, a0, ()) h1) (
j8 (.undef, v5, v2, a1, a0, ()) h1))
theorem S121_eq (c : CV) (a0 a1 : AV) (h : AH) : enterK Tryz.prog NN P121 c 121 [a0, a1] h = S121 c a0 a1 h := by kernel_rfl
def W121 (c : CV) (l : List AV) (h : AH) : R := match l with | [a0, a1] => S121 c a0 a1 h | _ => none
theorem W121_ok : WOk Tryz.prog 121 W121 := by
  intro c l h r e
  unfold W121 at e
  split at e
  · exact ⟨P121, by rw [S121_eq]; exact e⟩
  · cases e
/- quietus/arena.asked -/
def P122 : Pl := (.n none .z (.n none (.n none (.r [[17, 13, 1, 0]]) .z) .z))
def S122 (c : CV) (a0 a1 : AV) (h : AH) : R :=
pInt .leq a1 (.int .i64 (.ofNat 14)) fun v0 =>
joinC (α := AV × AV × AV × AV × Unit → AH → R) (fun s1 h2 =>
pPick s1.2.1 (.bool true) s1.1 fun v4 =>
pCond v4 (
some ((.tup [(.int .i64 (.ofNat 0)), (.bool false), (.int .i64 (.ofNat 2))]), h2)) (
pInt .sub s1.2.2.1 (.int .i64 (.ofNat 1)) fun v5 =>
pCall c (.fn 65 [] []) [s1.2.2.2.1, v5] h2 fun v6 h7 =>
pExtract v6 0 fun v8 =>
pExtract v6 1 fun v9 =>
pInt .neq v9 (.int .i64 (.ofNat 0)) fun v10 =>
pCond v10 (
some ((.tup [(.int .i64 (.ofNat 0)), (.bool false), v9]), h7)) (
pCall c (.fn 163 [] []) [v8] h7 fun v11 h12 =>
pExtract v11 0 fun v13 =>
pExtract v11 1 fun v14 =>
pInt .eql v13 (.int .i64 (.ofNat 0)) fun v15 =>
pCond v15 (
some ((.tup [(.int .i64 (.ofNat 0)), (.bool false), (.int .i64 (.ofNat 2))]), h12)) (
some ((.tup [v13, v14, (.int .i64 (.ofNat 0))]), h12))))) fun j3 =>
pWant v0 false (
pCall c (.fn 162 [] []) [a0] h fun v16 h17 =>
pInt .geq a1 v16 fun v18 =>
j3 (v18, v0, a1, a0, ()) h17) (
j3 (.undef, v0, a1, a0, ()) h)
theorem S122_eq (c : CV) (a0 a1 : AV) (h : AH) : enterK Tryz.prog NN P122 c 122 [a0, a1] h = S122 c a0 a1 h := by kernel_rfl
def W122 (c : CV) (l : List AV) (h : AH) : R := match l with | [a0, a1] => S122 c a0 a1 h | _ => none
theorem W122_ok : WOk Tryz.prog 122 W122 := by
  intro c l h r e
  unfold W122 at e
  split at e
  · exact ⟨P122, by rw [S122_eq]; exact e⟩
  · cases e
/- (*quietus/view.View).Take -/
def P123 : Pl := (.n none .z (.n none (.n none .z (.n none (.n (some [9, 8, 7, 1, 0]) .z .z) .z)) .z))
def S123 (c : CV) (a0 a1 : AV) (h : AH) : R :=
pLenS a1 fun v0 =>
loopC (σ := AV × AV × AV × AV × AV × Unit) NN (fun i4 s1 h2 d3 =>
pInt .lss s1.1 s1.2.1 fun v5 =>
pCond v5 (
pIdxS s1.2.2.1 s1.1 2 fun v6 =>
pLoadN h2 v6 2 fun v7 =>
pBox h2 74 (.agg [(.int .i64 (.ofNat 0)), (.int .u64 (.ofNat 0))]) fun v8 h9 =>
pStore h9 v8 v7 2 fun h10 =>
pFieldA v8 0 fun v11 =>
pLoad1 h10 v11 fun v12 =>
pCall c (.fn 23 [] []) [s1.2.2.2.2.1, v12] h10 fun v13 h14 =>
pUn .not v13 fun v15 =>
pCond v15 (
pLeave d3 h14 fun h16 =>
some ((.int .i64 (.ofNat 2)), h16)) (
pInt .add s1.1 (.int .i64 (.ofNat 1)) fun v17 =>
i4 (v17, s1.2.1, s1.2.2.1, s1.2.2.2.1, s1.2.2.2.2.1, ()) h14 d3)) (
pNil s1.2.2.2.2.1 fun v18 =>
pFieldA v18 2 fun v19 =>
pLoad1 h2 v19 fun v20 =>
pCall c (.fn 164 [] []) [v20, s1.2.2.2.1] h2 fun v21 h22 =>
pLeave d3 h22 fun h23 =>
some (v21, h23))) ((.int .i64 (.ofNat 0)), v0, a1, a1, a0, ()) h []
theorem S123_eq (c : CV) (a0 a1 : AV) (h : AH) : enterK Tryz.prog NN P123 c 123 [a0, a1] h = S123 c a0 a1 h := by kernel_rfl
def W123 (c : CV) (l : List AV) (h : AH) : R := match l with | [a0, a1] => S123 c a0 a1 h | _ => none
theorem W123_ok : WOk Tryz.prog 123 W123 := by
  intro c l h r e
  unfold W123 at e
  split at e
  · exact ⟨P123, by rw [S123_eq]; exact e⟩
  · cases e
/- (*quietus/view.View).Free -/
def P124 : Pl := .z
def S124 (c : CV) (a0 a1 : AV) (h : AH) : R :=
pNil a0 fun v0 =>
pFieldA v0 2 fun v1 =>
pLoad1 h v1 fun v2 =>
pCall c (.fn 165 [] []) [v2, a1] h fun _ h4 =>
some ((.tup []), h4)
theorem S124_eq (c : CV) (a0 a1 : AV) (h : AH) : enterK Tryz.prog NN P124 c 124 [a0, a1] h = S124 c a0 a1 h := by kernel_rfl
def W124 (c : CV) (l : List AV) (h : AH) : R := match l with | [a0, a1] => S124 c a0 a1 h | _ => none
theorem W124_ok : WOk Tryz.prog 124 W124 := by
  intro c l h r e
  unfold W124 at e
  split at e
  · exact ⟨P124, by rw [S124_eq]; exact e⟩
  · cases e
/- (*quietus/view.View).Open -/
def P125 : Pl := .z
def S125 (c : CV) (a0 : AV) (h : AH) : R :=
pNil a0 fun v0 =>
pFieldA v0 2 fun v1 =>
pLoad1 h v1 fun v2 =>
pCall c (.fn 166 [] []) [v2] h fun v3 h4 =>
some (v3, h4)
theorem S125_eq (c : CV) (a0 : AV) (h : AH) : enterK Tryz.prog NN P125 c 125 [a0] h = S125 c a0 h := by kernel_rfl
def W125 (c : CV) (l : List AV) (h : AH) : R := match l with | [a0] => S125 c a0 h | _ => none
theorem W125_ok : WOk Tryz.prog 125 W125 := by
  intro c l h r e
  unfold W125 at e
  split at e
  · exact ⟨P125, by rw [S125_eq]; exact e⟩
  · cases e
/- (*quietus/slate.Slate).Len -/
def P126 : Pl := .z
def S126 (_ : CV) (a0 : AV) (h : AH) : R :=
pNil a0 fun v0 =>
pFieldA v0 0 fun v1 =>
pLoad1 h v1 fun v2 =>
pLenS v2 fun v3 =>
some (v3, h)
theorem S126_eq (c : CV) (a0 : AV) (h : AH) : enterK Tryz.prog NN P126 c 126 [a0] h = S126 c a0 h := by kernel_rfl
def W126 (c : CV) (l : List AV) (h : AH) : R := match l with | [a0] => S126 c a0 h | _ => none
theorem W126_ok : WOk Tryz.prog 126 W126 := by
  intro c l h r e
  unfold W126 at e
  split at e
  · exact ⟨P126, by rw [S126_eq]; exact e⟩
  · cases e
/- (*quietus/levels.Levels).Keep -/
def P127 : Pl := (.n none .z (.n none .z (.n none .z (.n none .z (.n none .z (.n none (.r [[2]]) .z))))))
def S127 (c : CV) (a0 : AV) (h : AH) : R :=
pCall c (.fn 158 [] []) [a0] h fun v0 h1 =>
pCall c (.fn 129 [] []) [a0] h1 fun v2 h3 =>
pInt .neq v2 (.int .i64 (.ofNat 0)) fun v4 =>
pCond v4 (
some (v2, h3)) (
pCall c (.fn 158 [] []) [a0] h3 fun v5 h6 =>
pNil v5 fun v7 =>
pFieldA v7 1 fun v8 =>
pLoad1 h6 v8 fun v9 =>
pNil v0 fun v10 =>
pFieldA v10 1 fun v11 =>
pLoad1 h6 v11 fun v12 =>
pAppend h6 3 1 v9 v12 fun v13 h14 =>
pNil v5 fun v15 =>
pFieldA v15 1 fun v16 =>
pStore h14 v16 v13 1 fun h17 =>
joinC (α := AV × Unit → AH → R) (fun s18 h19 =>
some (s18.1, h19)) fun j20 =>
pNil v5 fun v21 =>
pFieldA v21 0 fun v22 =>
pLoad1 h17 v22 fun v23 =>
pNil v0 fun v24 =>
pFieldA v24 0 fun v25 =>
pLoad1 h17 v25 fun v26 =>
pCall c (.fn 168 [] []) [v26] h17 fun v27 h28 =>
pCall c (.fn 167 [] []) [v23, v27] h28 fun v29 h30 =>
pChk v22 none v23 h17 h28 h17.nx <|
j20 (v29, ()) h30)
theorem S127_eq (c : CV) (a0 : AV) (h : AH) : enterK Tryz.prog NN P127 c 127 [a0] h = S127 c a0 h := by kernel_rfl
def W127 (c : CV) (l : List AV) (h : AH) : R := match l with | [a0] => S127 c a0 h | _ => none
theorem W127_ok : WOk Tryz.prog 127 W127 := by
  intro c l h r e
  unfold W127 at e
  split at e
  · exact ⟨P127, by rw [S127_eq]; exact e⟩
  · cases e
/- (*quietus/slate.Slate).Cut -/
def P128 : Pl := .z
def S128 (c : CV) (a0 a1 : AV) (h : AH) : R :=
pNil a0 fun v0 =>
pFieldA v0 0 fun v1 =>
pLoad1 h v1 fun v2 =>
pNil a0 fun v3 =>
pFieldA v3 0 fun v4 =>
pLoad1 h v4 fun v5 =>
pLenS v5 fun v6 =>
pMM false [a1, v6] fun v7 =>
pMM true [(.int .i64 (.ofNat 0)), v7] fun v8 =>
pSlice h 20 1 v2 none (some v8) fun v9 =>
pCall c (.fn 39 [] []) [v9] h fun v10 h11 =>
pNil a0 fun v12 =>
pFieldA v12 0 fun v13 =>
pStore h11 v13 v10 1 fun h14 =>
some ((.tup []), h14)
theorem S128_eq (c : CV) (a0 a1 : AV) (h : AH) : enterK Tryz.prog NN P128 c 128 [a0, a1] h = S128 c a0 a1 h := by kernel_rfl
def W128 (c : CV) (l : List AV) (h : AH) : R := match l with | [a0, a1] => S128 c a0 a1 h | _ => none
theorem W128_ok : WOk Tryz.prog 128 W128 := by
  intro c l h r e
  unfold W128 at e
  split at e
  · exact ⟨P128, by rw [S128_eq]; exact e⟩
  · cases e
/- (*quietus/levels.Levels).Drop -/
def P129 : Pl := .z
def S129 (_ : CV) (a0 : AV) (h : AH) : R :=
pNil a0 fun v0 =>
pFieldA v0 1 fun v1 =>
pLoad1 h v1 fun v2 =>
pLenS v2 fun v3 =>
pInt .eql v3 (.int .i64 (.ofNat 1)) fun v4 =>
pCond v4 (
some ((.int .i64 (.ofNat 10)), h)) (
pNil a0 fun v5 =>
pFieldA v5 1 fun v6 =>
pLoad1 h v6 fun v7 =>
pNil a0 fun v8 =>
pFieldA v8 1 fun v9 =>
pLoad1 h v9 fun v10 =>
pLenS v10 fun v11 =>
pInt .sub v11 (.int .i64 (.ofNat 1)) fun v12 =>
pSlice h 75 1 v7 none (some v12) fun v13 =>
pNil a0 fun v14 =>
pFieldA v14 1 fun v15 =>
pStore h v15 v13 1 fun h16 =>
some ((.int .i64 (.ofNat 0)), h16))
theorem S129_eq (c : CV) (a0 : AV) (h : AH) : enterK Tryz.prog NN P129 c 129 [a0] h = S129 c a0 h := by kernel_rfl
def W129 (c : CV) (l : List AV) (h : AH) : R := match l with | [a0] => S129 c a0 h | _ => none
theorem W129_ok : WOk Tryz.prog 129 W129 := by
  intro c l h r e
  unfold W129 at e
  split at e
  · exact ⟨P129, by rw [S129_eq]; exact e⟩
  · cases e
/- internal/strconv.small -/
def P130 : Pl := .z
def S130 (_ : CV) (a0 : AV) (h : AH) : R :=
pInt .lss a0 (.int .i64 (.ofNat 10)) fun v0 =>
pCond v0 (
pInt .add a0 (.int .i64 (.ofNat 1)) fun v1 =>
pSliceS (.str [48, 49, 50, 51, 52, 53, 54, 55, 56, 57, 97, 98, 99, 100, 101, 102, 103, 104, 105, 106, 107, 108, 109, 110, 111, 112, 113, 114, 115, 116, 117, 118, 119, 120, 121, 122]) (some a0) (some v1) fun v2 =>
some (v2, h)) (
pInt .mul a0 (.int .i64 (.ofNat 2)) fun v3 =>
pInt .mul a0 (.int .i64 (.ofNat 2)) fun v4 =>
pInt .add v4 (.int .i64 (.ofNat 2)) fun v5 =>
pSliceS (.str [48, 48, 48, 49, 48, 50, 48, 51, 48, 52, 48, 53, 48, 54, 48, 55, 48, 56, 48, 57, 49, 48, 49, 49, 49, 50, 49, 51, 49, 52, 49, 53, 49, 54, 49, 55, 49, 56, 49, 57, 50, 48, 50, 49, 50, 50, 50, 51, 50, 52, 50, 53, 50, 54, 50, 55, 50, 56, 50, 57, 51, 48, 51, 49, 51, 50, 51, 51, 51, 52, 51, 53, 51, 54, 51, 55, 51, 56, 51, 57, 52, 48, 52, 49, 52, 50, 52, 51, 52, 52, 52, 53, 52, 54, 52, 55, 52, 56, 52, 57, 53, 48, 53, 49, 53, 50, 53, 51, 53, 52, 53, 53, 53, 54, 53, 55, 53, 56, 53, 57, 54, 48, 54, 49, 54, 50, 54, 51, 54, 52, 54, 53, 54, 54, 54, 55, 54, 56, 54, 57, 55, 48, 55, 49, 55, 50, 55, 51, 55, 52, 55, 53, 55, 54, 55, 55, 55, 56, 55, 57, 56, 48, 56, 49, 56, 50, 56, 51, 56, 52, 56, 53, 56, 54, 56, 55, 56, 56, 56, 57, 57, 48, 57, 49, 57, 50, 57, 51, 57, 52, 57, 53, 57, 54, 57, 55, 57, 56, 57, 57]) (some v3) (some v5) fun v6 =>
some (v6, h))
theorem S130_eq (c : CV) (a0 : AV) (h : AH) : enterK Tryz.prog NN P130 c 130 [a0] h = S130 c a0 h := by kernel_rfl
def W130 (c : CV) (l : List AV) (h : AH) : R := match l with | [a0] => S130 c a0 h | _ => none
theorem W130_ok : WOk Tryz.prog 130 W130 := by
  intro c l h r e
  unfold W130 at e
  split at e
  · exact ⟨P130, by rw [S130_eq]; exact e⟩
  · cases e
/- internal/strconv.numDigits -/
def P131 : Pl := .z
def S131 (c : CV) (a0 : AV) (h : AH) : R :=
pCall c (.fn 170 [] []) [a0] h fun v0 h1 =>
pCall c (.fn 169 [] []) [v0] h1 fun _ _ =>
none /- op -/
theorem S131_eq (c : CV) (a0 : AV) (h : AH) : enterK Tryz.prog NN P131 c 131 [a0] h = S131 c a0 h := by kernel_rfl
def W131 (c : CV) (l : List AV) (h : AH) : R := match l with | [a0] => S131 c a0 h | _ => none
theorem W131_ok : WOk Tryz.prog 131 W131 := by
  intro c l h r e
  unfold W131 at e
  split at e
  · exact ⟨P131, by rw [S131_eq]; exact e⟩
  · cases e
/- internal/strconv.formatBase10 -/
def P132 : Pl := (.n none .z (.n none (.n none (.n (some [4, 1, 0]) .z .z) .z) (.n none .z (.n (some [12, 4, 0]) .z (.n (some [12, 4, 0]) .z .z)))))
def S132 (_ : CV) (a0 a1 : AV) (h : AH) : R :=
pLenS a0 fun v0 =>
loopC (σ := AV × AV × AV × Unit) NN (fun i4 s1 h2 d3 =>
pInt .geq s1.1 (.int .i64 (.ofNat 8)) fun v5 =>
pCond v5 (
pInt .rem s1.2.1 (.int .u64 (.ofNat 100000000)) fun v6 =>
pConvI .u32 v6 fun v7 =>
pInt .quo s1.2.1 (.int .u64 (.ofNat 100000000)) fun v8 =>
pInt .quo v7 (.int .u32 (.ofNat 10000)) fun v9 =>
pInt .rem v7 (.int .u32 (.ofNat 10000)) fun v10 =>
pInt .quo v10 (.int .u32 (.ofNat 100)) fun v11 =>
pInt .mul v11 (.int .u32 (.ofNat 2)) fun v12 =>
pInt .rem v10 (.int .u32 (.ofNat 100)) fun v13 =>
pInt .mul v13 (.int .u32 (.ofNat 2)) fun v14 =>
pInt .quo v9 (.int .u32 (.ofNat 100)) fun v15 =>
pInt .mul v15 (.int .u32 (.ofNat 2)) fun v16 =>
pInt .rem v9 (.int .u32 (.ofNat 100)) fun v17 =>
pInt .mul v17 (.int .u32 (.ofNat 2)) fun v18 =>
pInt .sub s1.1 (.int .i64 (.ofNat 1)) fun v19 =>
pInt .sub s1.1 (.int .i64 (.ofNat 2)) fun v20 =>
pInt .add v14 (.int .u32 (.ofNat 1)) fun v21 =>
pIdxStr (.str [48, 48, 48, 49, 48, 50, 48, 51, 48, 52, 48, 53, 48, 54, 48, 55, 48, 56, 48, 57, 49, 48, 49, 49, 49, 50, 49, 51, 49, 52, 49, 53, 49, 54, 49, 55, 49, 56, 49, 57, 50, 48, 50, 49, 50, 50, 50, 51, 50, 52, 50, 53, 50, 54, 50, 55, 50, 56, 50, 57, 51, 48, 51, 49, 51, 50, 51, 51, 51, 52, 51, 53, 51, 54, 51, 55, 51, 56, 51, 57, 52, 48, 52, 49, 52, 50, 52, 51, 52, 52, 52, 53, 52, 54, 52, 55, 52, 56, 52, 57, 53, 48, 53, 49, 53, 50, 53, 51, 53, 52, 53, 53, 53, 54, 53, 55, 53, 56, 53, 57, 54, 48, 54, 49, 54, 50, 54, 51, 54, 52, 54, 53, 54, 54, 54, 55, 54, 56, 54, 57, 55, 48, 55, 49, 55, 50, 55, 51, 55, 52, 55, 53, 55, 54, 55, 55, 55, 56, 55, 57, 56, 48, 56, 49, 56, 50, 56, 51, 56, 52, 56, 53, 56, 54, 56, 55, 56, 56, 56, 57, 57, 48, 57, 49, 57, 50, 57, 51, 57, 52, 57, 53, 57, 54, 57, 55, 57, 56, 57, 57]) v21 fun v22 =>
pIdxStr (.str [48, 48, 48, 49, 48, 50, 48, 51, 48, 52, 48, 53, 48, 54, 48, 55, 48, 56, 48, 57, 49, 48, 49, 49, 49, 50, 49, 51, 49, 52, 49, 53, 49, 54, 49, 55, 49, 56, 49, 57, 50, 48, 50, 49, 50, 50, 50, 51, 50, 52, 50, 53, 50, 54, 50, 55, 50, 56, 50, 57, 51, 48, 51, 49, 51, 50, 51, 51, 51, 52, 51, 53, 51, 54, 51, 55, 51, 56, 51, 57, 52, 48, 52, 49, 52, 50, 52, 51, 52, 52, 52, 53, 52, 54, 52, 55, 52, 56, 52, 57, 53, 48, 53, 49, 53, 50, 53, 51, 53, 52, 53, 53, 53, 54, 53, 55, 53, 56, 53, 57, 54, 48, 54, 49, 54, 50, 54, 51, 54, 52, 54, 53, 54, 54, 54, 55, 54, 56, 54, 57, 55, 48, 55, 49, 55, 50, 55, 51, 55, 52, 55, 53, 55, 54, 55, 55, 55, 56, 55, 57, 56, 48, 56, 49, 56, 50, 56, 51, 56, 52, 56, 53, 56, 54, 56, 55, 56, 56, 56, 57, 57, 48, 57, 49, 57, 50, 57, 51, 57, 52, 57, 53, 57, 54, 57, 55, 57, 56, 57, 57]) v14 fun v23 =>
pIdxS s1.2.2.1 v19 1 fun v24 =>
pStore h2 v24 v22 1 fun h25 =>
pIdxS s1.2.2.1 v20 1 fun v26 =>
pStore h25 v26 v23 1 fun h27 =>
pInt .sub s1.1 (.int .i64 (.ofNat 3)) fun v28 =>
pInt .sub s1.1 (.int .i64 (.ofNat 4)) fun v29 =>
pInt .add v12 (.int .u32 (.ofNat 1)) fun v30 =>
pIdxStr (.str [48, 48, 48, 49, 48, 50, 48, 51, 48, 52, 48, 53, 48, 54, 48, 55, 48, 56, 48, 57, 49, 48, 49, 49, 49, 50, 49, 51, 49, 52, 49, 53, 49, 54, 49, 55, 49, 56, 49, 57, 50, 48, 50, 49, 50, 50, 50, 51, 50, 52, 50, 53, 50, 54, 50, 55, 50, 56, 50, 57, 51, 48, 51, 49, 51, 50, 51, 51, 51, 52, 51, 53, 51, 54, 51, 55, 51, 56, 51, 57, 52, 48, 52, 49, 52, 50, 52, 51, 52, 52, 52, 53, 52, 54, 52, 55, 52, 56, 52, 57, 53, 48, 53, 49, 53, 50, 53, 51, 53, 52, 53, 53, 53, 54, 53, 55, 53, 56, 53, 57, 54, 48, 54, 49, 54, 50, 54, 51, 54, 52, 54, 53, 54, 54, 54, 55, 54, 56, 54, 57, 55, 48, 55, 49, 55, 50, 55, 51, 55, 52, 55, 53, 55, 54, 55, 55, 55, 56, 55, 57, 56, 48, 56, 49, 56, 50, 56, 51, 56, 52, 56, 53, 56, 54, 56, 55, 56, 56, 56, 57, 57, 48, 57, 49, 57, 50, 57, 51, 57, 52, 57, 53, 57, 54, 57, 55, 57, 56, 57, 57]) v30 fun v31 =>
pIdxStr (.str [48, 48, 48, 49, 48, 50, 48, 51, 48, 52, 48, 53, 48, 54, 48, 55, 48, 56, 48, 57, 49, 48, 49, 49, 49, 50, 49, 51, 49, 52, 49, 53, 49, 54, 49, 55, 49, 56, 49, 57, 50, 48, 50, 49, 50, 50, 50, 51, 50, 52, 50, 53, 50, 54, 50, 55, 50, 56, 50, 57, 51, 48, 51, 49, 51, 50, 51, 51, 51, 52, 51, 53, 51, 54, 51, 55, 51, 56, 51, 57, 52, 48, 52, 49, 52, 50, 52, 51, 52, 52, 52, 53, 52, 54, 52, 55, 52, 56, 52, 57, 53, 48, 53, 49, 53, 50, 53, 51, 53, 52, 53, 53, 53, 54, 53, 55, 53, 56, 53, 57, 54, 48, 54, 49, 54, 50, 54, 51, 54, 52, 54, 53, 54, 54, 54, 55, 54, 56, 54, 57, 55, 48, 55, 49, 55, 50, 55, 51, 55, 52, 55, 53, 55, 54, 55, 55, 55, 56, 55, 57, 56, 48, 56, 49, 56, 50, 56, 51, 56, 52, 56, 53, 56, 54, 56, 55, 56, 56, 56, 57, 57, 48, 57, 49, 57, 50, 57, 51, 57, 52, 57, 53, 57, 54, 57, 55, 57, 56, 57, 57]) v12 fun v32 =>
pIdxS s1.2.2.1 v28 1 fun v33 =>
pStore h27 v33 v31 1 fun h34 =>
pIdxS s1.2.2.1 v29 1 fun v35 =>
pStore h34 v35 v32 1 fun h36 =>
pInt .sub s1.1 (.int .i64 (.ofNat 5)) fun v37 =>
pInt .sub s1.1 (.int .i64 (.ofNat 6)) fun v38 =>
pInt .add v18 (.int .u32 (.ofNat 1)) fun v39 =>
pIdxStr (.str [48, 48, 48, 49, 48, 50, 48, 51, 48, 52, 48, 53, 48, 54, 48, 55, 48, 56, 48, 57, 49, 48, 49, 49, 49, 50, 49, 51, 49, 52, 49, 53, 49, 54, 49, 55, 49, 56, 49, 57, 50, 48, 50, 49, 50, 50, 50, 51, 50, 52, 50, 53, 50, 54, 50, 55, 50, 56, 50, 57, 51, 48, 51, 49, 51, 50, 51, 51, 51, 52, 51, 53, 51, 54, 51, 55, 51, 56, 51, 57, 52, 48, 52, 49, 52, 50, 52, 51, 52, 52, 52, 53, 52, 54, 52, 55, 52, 56, 52, 57, 53, 48, 53, 49, 53, 50, 53, 51, 53, 52, 53, 53, 53, 54, 53, 55, 53, 56, 53, 57, 54, 48, 54, 49, 54, 50, 54, 51, 54, 52, 54, 53, 54, 54, 54, 55, 54, 56, 54, 57, 55, 48, 55, 49, 55, 50, 55, 51, 55, 52, 55, 53, 55, 54, 55, 55, 55, 56, 55, 57, 56, 48, 56, 49, 56, 50, 56, 51, 56, 52, 56, 53, 56, 54, 56, 55, 56, 56, 56, 57, 57, 48, 57, 49, 57, 50, 57, 51, 57, 52, 57, 53, 57, 54, 57, 55, 57, 56, 57, 57]) v39 fun v40 =>
pIdxStr (.str [48, 48, 48, 49, 48, 50, 48, 51, 48, 52, 48, 53, 48, 54, 48, 55, 48, 56, 48, 57, 49, 48, 49, 49, 49, 50, 49, 51, 49, 52, 49, 53, 49, 54, 49, 55, 49, 56, 49, 57, 50, 48, 50, 49, 50, 50, 50, 51, 50, 52, 50, 53, 50, 54, 50, 55, 50, 56, 50, 57, 51, 48, 51, 49, 51, 50, 51, 51, 51, 52, 51, 53, 51, 54, 51, 55, 51, 56, 51, 57, 52, 48, 52, 49, 52, 50, 52, 51, 52, 52, 52, 53, 52, 54, 52, 55, 52, 56, 52, 57, 53, 48, 53, 49, 53, 50, 53, 51, 53, 52, 53, 53, 53, 54, 53, 55, 53, 56, 53, 57, 54, 48, 54, 49, 54, 50, 54, 51, 54, 52, 54, 53, 54, 54, 54, 55, 54, 56, 54, 57, 55, 48, 55, 49, 55, 50, 55, 51, 55, 52, 55, 53, 55, 54, 55, 55, 55, 56, 55, 57, 56, 48, 56, 49, 56, 50, 56, 51, 56, 52, 56, 53, 56, 54, 56, 55, 56, 56, 56, 57, 57, 48, 57, 49, 57, 50, 57, 51, 57, 52, 57, 53, 57, 54, 57, 55, 57, 56, 57, 57]) v18 fun v41 =>
pIdxS s1.2.2.1 v37 1 fun v42 =>
pStore h36 v42 v40 1 fun h43 =>
pIdxS s1.2.2.1 v38 1 fun v44 =>
pStore h43 v44 v41 1 fun h45 =>
pInt .sub s1.1 (.int .i64 (.ofNat 7)) fun v46 =>
pInt .sub s1.1 (.int .i64 (.ofNat 8)) fun v47 =>
pInt .add v16 (.int .u32 (.ofNat 1)) fun v48 =>
pIdxStr (.str [48, 48, 48, 49, 48, 50, 48, 51, 48, 52, 48, 53, 48, 54, 48, 55, 48, 56, 48, 57, 49, 48, 49, 49, 49, 50, 49, 51, 49, 52, 49, 53, 49, 54, 49, 55, 49, 56, 49, 57, 50, 48, 50, 49, 50, 50, 50, 51, 50, 52, 50, 53, 50, 54, 50, 55, 50, 56, 50, 57, 51, 48, 51, 49, 51, 50, 51, 51, 51, 52, 51, 53, 51, 54, 51, 55, 51, 56, 51, 57, 52, 48, 52, 49, 52, 50, 52, 51, 52, 52, 52, 53, 52, 54, 52, 55, 52, 56, 52, 57, 53, 48, 53, 49, 53, 50, 53, 51, 53, 52, 53, 53, 53, 54, 53, 55, 53, 56, 53, 57, 54, 48, 54, 49, 54, 50, 54, 51, 54, 52, 54, 53, 54, 54, 54, 55, 54, 56, 54, 57, 55, 48, 55, 49, 55, 50, 55, 51, 55, 52, 55, 53, 55, 54, 55, 55, 55, 56, 55, 57, 56, 48, 56, 49, 56, 50, 56, 51, 56, 52, 56, 53, 56, 54, 56, 55, 56, 56, 56, 57, 57, 48, 57, 49, 57, 50, 57, 51, 57, 52, 57, 53, 57, 54, 57, 55, 57, 56, 57, 57]) v48 fun v49 =>
pIdxStr (.str [48, 48, 48, 49, 48, 50, 48, 51, 48, 52, 48, 53, 48, 54, 48, 55, 48, 56, 48, 57, 49, 48, 49, 49, 49, 50, 49, 51, 49, 52, 49, 53, 49, 54, 49, 55, 49, 56, 49, 57, 50, 48, 50, 49, 50, 50, 50, 51, 50, 52, 50, 53, 50, 54, 50, 55, 50, 56, 50, 57, 51, 48, 51, 49, 51, 50, 51, 51, 51, 52, 51, 53, 51, 54, 51, 55, 51, 56, 51, 57, 52, 48, 52, 49, 52, 50, 52, 51, 52, 52, 52, 53, 52, 54, 52, 55, 52, 56, 52, 57, 53, 48, 53, 49, 53, 50, 53, 51, 53, 52, 53, 53, 53, 54, 53, 55, 53, 56, 53, 57, 54, 48, 54, 49, 54, 50, 54, 51, 54, 52, 54, 53, 54, 54, 54, 55, 54, 56, 54, 57, 55, 48, 55, 49, 55, 50, 55, 51, 55, 52, 55, 53, 55, 54, 55, 55, 55, 56, 55, 57, 56, 48, 56, 49, 56, 50, 56, 51, 56, 52, 56, 53, 56, 54, 56, 55, 56, 56, 56, 57, 57, 48, 57, 49, 57, 50, 57, 51, 57, 52, 57, 53, 57, 54, 57, 55, 57, 56, 57, 57]) v16 fun v50 =>
pIdxS s1.2.2.1 v46 1 fun v51 =>
pStore h45 v51 v49 1 fun h52 =>
pIdxS s1.2.2.1 v47 1 fun v53 =>
pStore h52 v53 v50 1 fun h54 =>
pInt .sub s1.1 (.int .i64 (.ofNat 8)) fun v55 =>
i4 (v55, v8, s1.2.2.1, ()) h54 d3) (
pConvI .u32 s1.2.1 fun v56 =>
joinC (α := AV × AV × AV × Unit → AH → List Nat → R) (fun s57 h58 d59 =>
joinC (α := AV × AV × AV × Unit → AH → List Nat → R) (fun s61 h62 d63 =>
pInt .gtr s61.2.1 (.int .i64 (.ofNat 0)) fun v65 =>
pCond v65 (
pInt .add (.int .u32 (.ofNat 48)) s61.1 fun v66 =>
pConvI .u8 v66 fun v67 =>
pIdxS s61.2.2.1 (.int .i64 (.ofNat 0)) 1 fun v68 =>
pStore h62 v68 v67 1 fun h69 =>
pLeave d63 h69 fun h70 =>
some ((.tup []), h70)) (
pLeave d63 h62 fun h71 =>
some ((.tup []), h71))) fun j64 =>
pInt .geq s57.2.1 (.int .i64 (.ofNat 2)) fun v72 =>
pCond v72 (
pInt .rem s57.1 (.int .u32 (.ofNat 100)) fun v73 =>
pInt .mul v73 (.int .u32 (.ofNat 2)) fun v74 =>
pInt .quo s57.1 (.int .u32 (.ofNat 100)) fun v75 =>
pInt .sub s57.2.1 (.int .i64 (.ofNat 1)) fun v76 =>
pInt .sub s57.2.1 (.int .i64 (.ofNat 2)) fun v77 =>
pInt .add v74 (.int .u32 (.ofNat 1)) fun v78 =>
pIdxStr (.str [48, 48, 48, 49, 48, 50, 48, 51, 48, 52, 48, 53, 48, 54, 48, 55, 48, 56, 48, 57, 49, 48, 49, 49, 49, 50, 49, 51, 49, 52, 49, 53, 49, 54, 49, 55, 49, 56, 49, 57, 50, 48, 50, 49, 50, 50, 50, 51, 50, 52, 50, 53, 50, 54, 50, 55, 50, 56, 50, 57, 51, 48, 51, 49, 51, 50, 51, 51, 51, 52, 51, 53, 51, 54, 51, 55, 51, 56, 51, 57, 52, 48, 52, 49, 52, 50, 52, 51, 52, 52, 52, 53, 52, 54, 52, 55, 52, 56, 52, 57, 53, 48, 53, 49, 53, 50, 53, 51, 53, 52, 53, 53, 53, 54, 53, 55, 53, 56, 53, 57, 54, 48, 54, 49, 54, 50, 54, 51, 54, 52, 54, 53, 54, 54, 54, 55, 54, 56, 54, 57, 55, 48, 55, 49, 55, 50, 55, 51, 55, 52, 55, 53, 55, 54, 55, 55, 55, 56, 55, 57, 56, 48, 56, 49, 56, 50, 56, 51, 56, 52, 56, 53, 56, 54, 56, 55, 56, 56, 56, 57, 57, 48, 57, 49, 57, 50, 57, 51, 57, 52, 57, 53, 57, 54, 57, 55, 57, 56, 57, 57]) v78 fun v79 =>
pIdxStr (.str [48, 48, 48, 49, 48, 50, 48, 51, 48, 52, 48, 53, 48, 54, 48, 55, 48, 56, 48, 57, 49, 48, 49, 49, 49, 50, 49, 51, 49, 52, 49, 53, 49, 54, 49, 55, 49, 56, 49, 57, 50, 48, 50, 49, 50, 50, 50, 51, 50, 52, 50, 53, 50, 54, 50, 55, 50, 56, 50, 57, 51, 48, 51, 49, 51, 50, 51, 51, 51, 52, 51, 53, 51, 54, 51, 55, 51, 56, 51, 57, 52, 48, 52, 49, 52, 50, 52, 51, 52, 52, 52, 53, 52, 54, 52, 55, 52, 56, 52, 57, 53, 48, 53, 49, 53, 50, 53, 51, 53, 52, 53, 53, 53, 54, 53, 55, 53, 56, 53, 57, 54, 48, 54, 49, 54, 50, 54, 51, 54, 52, 54, 53, 54, 54, 54, 55, 54, 56, 54, 57, 55, 48, 55, 49, 55, 50, 55, 51, 55, 52, 55, 53, 55, 54, 55, 55, 55, 56, 55, 57, 56, 48, 56, 49, 56, 50, 56, 51, 56, 52, 56, 53, 56, 54, 56, 55, 56, 56, 56, 57, 57, 48, 57, 49, 57, 50, 57, 51, 57, 52, 57, 53, 57, 54, 57, 55, 57, 56, 57, 57]) v74 fun v80 =>
pIdxS s57.2.2.1 v76 1 fun v81 =>
pStore h58 v81 v79 1 fun h82 =>
pIdxS s57.2.2.1 v77 1 fun v83 =>
pStore h82 v83 v80 1 fun h84 =>
pInt .sub s57.2.1 (.int .i64 (.ofNat 2)) fun v85 =>
j64 (v75, v85, s57.2.2.1, ()) h84 d59) (
j64 (s57.1, s57.2.1, s57.2.2.1, ()) h58 d59)) fun j60 =>
pInt .geq s1.1 (.int .i64 (.ofNat 4)) fun v86 =>
pCond v86 (
pInt .rem v56 (.int .u32 (.ofNat 10000)) fun v87 =>
pInt .quo v56 (.int .u32 (.ofNat 10000)) fun v88 =>
pInt .quo v87 (.int .u32 (.ofNat 100)) fun v89 =>
pInt .mul v89 (.int .u32 (.ofNat 2)) fun v90 =>
pInt .rem v87 (.int .u32 (.ofNat 100)) fun v91 =>
pInt .mul v91 (.int .u32 (.ofNat 2)) fun v92 =>
pInt .sub s1.1 (.int .i64 (.ofNat 1)) fun v93 =>
pInt .sub s1.1 (.int .i64 (.ofNat 2)) fun v94 =>
pInt .add v92 (.int .u32 (.ofNat 1)) fun v95 =>
pIdxStr (.str [48, 48, 48, 49, 48, 50, 48, 51, 48, 52, 48, 53, 48, 54, 48, 55, 48, 56, 48, 57, 49, 48, 49, 49, 49, 50, 49, 51, 49, 52, 49, 53, 49, 54, 49, 55, 49, 56, 49, 57, 50, 48, 50, 49, 50, 50, 50, 51, 50, 52, 50, 53, 50, 54, 50, 55, 50, 56, 50, 57, 51, 48, 51, 49, 51, 50, 51, 51, 51, 52, 51, 53, 51, 54, 51, 55, 51, 56, 51, 57, 52, 48, 52, 49, 52, 50, 52, 51, 52, 52, 52, 53, 52, 54, 52, 55, 52, 56, 52, 57, 53, 48, 53, 49, 53, 50, 53, 51, 53, 52, 53, 53, 53, 54, 53, 55, 53, 56, 53, 57, 54, 48, 54, 49, 54, 50, 54, 51, 54, 52, 54, 53, 54, 54, 54, 55, 54, 56, 54, 57, 55, 48, 55, 49, 55, 50, 55, 51, 55, 52, 55, 53, 55, 54, 55, 55, 55, 56, 55, 57, 56, 48, 56, 49, 56, 50, 56, 51, 56, 52, 56, 53, 56, 54, 56, 55, 56, 56, 56, 57, 57, 48, 57, 49, 57, 50, 57, 51, 57, 52, 57, 53, 57, 54, 57, 55, 57, 56, 57, 57]) v95 fun v96 =>
pIdxStr (.str [48, 48, 48, 49, 48, 50, 48, 51, 48, 52, 48, 53, 48, 54, 48, 55, 48, 56, 48, 57, 49, 48, 49, 49, 49, 50, 49, 51, 49, 52, 49, 53, 49, 54, 49, 55, 49, 56, 49, 57, 50, 48, 50, 49, 50, 50, 50, 51, 50, 52, 50, 53, 50, 54, 50, 55, 50, 56, 50, 57, 51, 48, 51, 49, 51, 50, 51, 51, 51, 52, 51, 53, 51, 54, 51, 55, 51, 56, 51, 57, 52, 48, 52, 49, 52, 50, 52, 51, 52, 52, 52, 53, 52, 54, 52, 55, 52, 56, 52, 57, 53, 48, 53, 49, 53, 50, 53, 51, 53, 52, 53, 53, 53, 54, 53, 55, 53, 56, 53, 57, 54, 48, 54, 49, 54, 50, 54, 51, 54, 52, 54, 53, 54, 54, 54, 55, 54, 56, 54, 57, 55, 48, 55, 49, 55, 50, 55, 51, 55, 52, 55, 53, 55, 54, 55, 55, 55, 56, 55, 57, 56, 48, 56, 49, 56, 50, 56, 51, 56, 52, 56, 53, 56, 54, 56, 55, 56, 56, 56, 57, 57, 48, 57, 49, 57, 50, 57, 51, 57, 52, 57, 53, 57, 54, 57, 55, 57, 56, 57, 57]) v92 fun v97 =>
pIdxS s1.2.2.1 v93 1 fun v98 =>
pStore h2 v98 v96 1 fun h99 =>
pIdxS s1.2.2.1 v94 1 fun v100 =>
pStore h99 v100 v97 1 fun h101 =>
pInt .sub s1.1 (.int .i64 (.ofNat 3)) fun v102 =>
pInt .sub s1.1 (.int .i64 (.ofNat 4)) fun v103 =>
pInt .add v90 (.int .u32 (.ofNat 1)) fun v104 =>
pIdxStr (.str [48, 48, 48, 49, 48, 50, 48, 51, 48, 52, 48, 53, 48, 54, 48, 55, 48, 56, 48, 57, 49, 48, 49, 49, 49, 50, 49, 51, 49, 52, 49, 53, 49, 54, 49, 55, 49, 56, 49, 57, 50, 48, 50, 49, 50, 50, 50, 51, 50, 52, 50, 53, 50, 54, 50, 55, 50, 56, 50, 57, 51, 48, 51, 49, 51, 50, 51, 51, 51, 52, 51, 53, 51, 54, 51, 55, 51, 56, 51, 57, 52, 48, 52, 49, 52, 50, 52, 51, 52, 52, 52, 53, 52, 54, 52, 55, 52, 56, 52, 57, 53, 48, 53, 49, 53, 50, 53, 51, 53, 52, 53, 53, 53, 54, 53, 55, 53, 56, 53, 57, 54, 48, 54, 49, 54, 50, 54, 51, 54, 52, 54, 53, 54, 54, 54, 55, 54, 56, 54, 57, 55, 48, 55, 49, 55, 50, 55, 51, 55, 52, 55, 53, 55, 54, 55, 55, 55, 56, 55, 57, 56, 48, 56, 49, 56, 50, 56, 51, 56, 52, 56, 53, 56, 54, 56, 55, 56, 56, 56, 57, 57, 48, 57, 49, 57, 50, 57, 51, 57, 52, 57, 53, 57, 54, 57, 55, 57, 56, 57, 57]) v104 fun v105 =>
pIdxStr (.str [48, 48, 48, 49, 48, 50, 48, 51, 48, 52, 48, 53, 48, 54, 48, 55, 48, 56, 48, 57, 49, 48, 49, 49, 49, 50, 49, 51, 49, 52, 49, 53, 49, 54, 49, 55, 49, 56, 49, 57, 50, 48, 50, 49, 50, 50, 50, 51, 50, 52, 50, 53, 50, 54, 50, 55, 50, 56, 50, 57, 51, 48, 51, 49, 51, 50, 51, 51, 51, 52, 51, 53, 51, 54, 51, 55, 51, 56, 51, 57, 52, 48, 52, 49, 52, 50, 52, 51, 52, 52, 52, 53, 52, 54, 52, 55, 52, 56, 52, 57, 53, 48, 53, 49, 53, 50, 53, 51, 53, 52, 53, 53, 53, 54, 53, 55, 53, 56, 53, 57, 54, 48, 54, 49, 54, 50, 54, 51, 54, 52, 54, 53, 54, 54, 54, 55, 54, 56, 54, 57, 55, 48, 55, 49, 55, 50, 55, 51, 55, 52, 55, 53, 55, 54, 55, 55, 55, 56, 55, 57, 56, 48, 56, 49, 56, 50, 56, 51, 56, 52, 56, 53, 56, 54, 56, 55, 56, 56, 56, 57, 57, 48, 57, 49, 57, 50, 57, 51, 57, 52, 57, 53, 57, 54, 57, 55, 57, 56, 57, 57]) v90 fun v106 =>
pIdxS s1.2.2.1 v102 1 fun v107 =>
pStore h101 v107 v105 1 fun h108 =>
pIdxS s1.2.2.1 v103 1 fun v109 =>
pStore h108 v109 v106 1 fun h110 =>
pInt .sub s1.1 (.int .i64 (.ofNat 4)) fun v111 =>
j60 (v88, v111, s1.2.2.1, ()) h110 d3) (
j60 (v56, s1.1, s1.2.2.1, ()) h2 d3))) (v0, a1, a0, ()) h []
theorem S132_eq (c : CV) (a0 a1 : AV) (h : AH) : enterK Tryz.prog NN P132 c 132 [a0, a1] h = S132 c a0 a1 h := by kernel_rfl
def W132 (c : CV) (l : List AV) (h : AH) : R := match l with | [a0, a1] => S132 c a0 a1 h | _ => none
theorem W132_ok : WOk Tryz.prog 132 W132 := by
  intro c l h r e
  unfold W132 at e
  split at e
  · exact ⟨P132, by rw [S132_eq]; exact e⟩
  · cases e
/- internal/strconv.formatBits -/
def P133 : Pl := (.n none .z (.n (some [11, 10, 4, 3, 2, 1, 0]) (.n none (.r [[23, 21, 11, 10, 4, 3, 2, 1, 0], [27, 25, 11, 10, 4, 3, 2, 1, 0]]) .z) (.n none .z (.n none .z (.n (some [13, 12, 11, 10, 4, 3, 2, 1, 0]) .z (.n (some [13, 12, 11, 10, 4, 3, 0]) (.n none .z (.n none (.n none .z (.n none .z (.n none .z (.n none (.n none (.n (some [16, 15, 14, 13, 12, 11, 10, 4, 3, 1, 0]) .z .z) .z) .z)))) (.n none .z (.n none (.n none (.n (some [17, 13, 12, 11, 10, 4, 3, 1, 0]) .z .z) .z) .z)))) (.n (some [13, 12, 11, 10, 4, 0]) .z .z)))))))
def S133 (c : CV) (a0 a1 a2 a3 a4 : AV) (h : AH) : R :=
joinC (α := AV × AV × AV × AV × AV × AV × AV × Unit → AH → List Nat → R) (fun s0 h1 d2 =>
pBox h1 196 (.agg [(.int .u8 (.ofNat 0)), (.int .u8 (.ofNat 0)), (.int .u8 (.ofNat 0)), (.int .u8 (.ofNat 0)), (.int .u8 (.ofNat 0)), (.int .u8 (.ofNat 0)), (.int .u8 (.ofNat 0)), (.int .u8 (.ofNat 0)), (.int .u8 (.ofNat 0)), (.int .u8 (.ofNat 0)), (.int .u8 (.ofNat 0)), (.int .u8 (.ofNat 0)), (.int .u8 (.ofNat 0)), (.int .u8 (.ofNat 0)), (.int .u8 (.ofNat 0)), (.int .u8 (.ofNat 0)), (.int .u8 (.ofNat 0)), (.int .u8 (.ofNat 0)), (.int .u8 (.ofNat 0)), (.int .u8 (.ofNat 0)), (.int .u8 (.ofNat 0)), (.int .u8 (.ofNat 0)), (.int .u8 (.ofNat 0)), (.int .u8 (.ofNat 0)), (.int .u8 (.ofNat 0)), (.int .u8 (.ofNat 0)), (.int .u8 (.ofNat 0)), (.int .u8 (.ofNat 0)), (.int .u8 (.ofNat 0)), (.int .u8 (.ofNat 0)), (.int .u8 (.ofNat 0)), (.int .u8 (.ofNat 0)), (.int .u8 (.ofNat 0)), (.int .u8 (.ofNat 0)), (.int .u8 (.ofNat 0)), (.int .u8 (.ofNat 0)), (.int .u8 (.ofNat 0)), (.int .u8 (.ofNat 0)), (.int .u8 (.ofNat 0)), (.int .u8 (.ofNat 0)), (.int .u8 (.ofNat 0)), (.int .u8 (.ofNat 0)), (.int .u8 (.ofNat 0)), (.int .u8 (.ofNat 0)), (.int .u8 (.ofNat 0)), (.int .u8 (.ofNat 0)), (.int .u8 (.ofNat 0)), (.int .u8 (.ofNat 0)), (.int .u8 (.ofNat 0)), (.int .u8 (.ofNat 0)), (.int .u8 (.ofNat 0)), (.int .u8 (.ofNat 0)), (.int .u8 (.ofNat 0)), (.int .u8 (.ofNat 0)), (.int .u8 (.ofNat 0)), (.int .u8 (.ofNat 0)), (.int .u8 (.ofNat 0)), (.int .u8 (.ofNat 0)), (.int .u8 (.ofNat 0)), (.int .u8 (.ofNat 0)), (.int .u8 (.ofNat 0)), (.int .u8 (.ofNat 0)), (.int .u8 (.ofNat 0)), (.int .u8 (.ofNat 0)), (.int .u8 (.ofNat 0))]) fun v4 h5 =>
joinC (α := AV × AV × AV × AV × AV × AV × AV × AV × AV × Unit → AH → List Nat → R) (fun s6 h7 d8 =>
joinC (α := AV × AV × AV × AV × AV × AV × AV × Unit → AH → List Nat → R) (fun s10 h11 d12 =>
joinC (α := AV × AV × AV × AV × AV × AV × Unit → AH → List Nat → R) (fun s14 h15 d16 =>
pCond s14.2.2.2.2.1 (
pSliceP 65 1 s14.2.1 (some s14.1) none fun v18 =>
pAppend h15 5 1 s14.2.2.2.2.2.1 v18 fun v19 h20 =>
pLeave d16 h20 fun h21 =>
some ((.tup [v19, s14.2.2.1]), h21)) (
pSliceP 65 1 s14.2.1 (some s14.1) none fun v22 =>
pB2S h15 v22 fun v23 =>
pLeave d16 h15 fun h24 =>
some ((.tup [s14.2.2.2.1, v23]), h24))) fun j17 =>
pCond s10.2.2.2.2.2.1 (
pInt .sub s10.1 (.int .i64 (.ofNat 1)) fun v25 =>
pIdxP s10.2.1 v25 65 1 fun v26 =>
pStore h11 v26 (.int .u8 (.ofNat 45)) 1 fun h27 =>
j17 (v25, s10.2.1, s10.2.2.1, s10.2.2.2.1, s10.2.2.2.2.1, s10.2.2.2.2.2.2.1, ()) h27 d12) (
j17 (s10.1, s10.2.1, s10.2.2.1, s10.2.2.2.1, s10.2.2.2.2.1, s10.2.2.2.2.2.2.1, ()) h11 d12)) fun j13 =>
pCall c (.fn 172 [] []) [s6.2.2.2.2.2.2.1] h7 fun v28 h29 =>
pCond v28 (
pConvI .u64 s6.2.2.2.2.2.2.1 fun v30 =>
pCall c (.fn 173 [] []) [v30] h29 fun v31 h32 =>
pConvI .u64 v31 fun v33 =>
pConvI .u64 s6.2.2.2.2.2.2.1 fun v34 =>
pConvI .u64 s6.2.2.2.2.2.2.1 fun v35 =>
pInt .sub v35 (.int .u64 (.ofNat 1)) fun v36 =>
loopC (σ := AV × AV × AV × AV × AV × AV × AV × AV × AV × AV × AV × Unit) NN (fun i40 s37 h38 d39 =>
pInt .geq s37.2.2.2.2.2.2.2.2.2.1 s37.2.1 fun v41 =>
pCond v41 (
pInt .sub s37.2.2.2.1 (.int .i64 (.ofNat 1)) fun v42 =>
pInt .and s37.2.2.2.2.2.2.2.2.2.1 s37.1 fun v43 =>
pIdxStr (.str [48, 49, 50, 51, 52, 53, 54, 55, 56, 57, 97, 98, 99, 100, 101, 102, 103, 104, 105, 106, 107, 108, 109, 110, 111, 112, 113, 114, 115, 116, 117, 118, 119, 120, 121, 122]) v43 fun v44 =>
pIdxP s37.2.2.2.2.1 v42 65 1 fun v45 =>
pStore h38 v45 v44 1 fun h46 =>
pShift .shr s37.2.2.2.2.2.2.2.2.2.1 s37.2.2.1 fun v47 =>
i40 (s37.1, s37.2.1, s37.2.2.1, v42, s37.2.2.2.2.1, s37.2.2.2.2.2.1, s37.2.2.2.2.2.2.1, s37.2.2.2.2.2.2.2.1, s37.2.2.2.2.2.2.2.2.1, v47, s37.2.2.2.2.2.2.2.2.2.2.1, ()) h46 d39) (
pInt .sub s37.2.2.2.1 (.int .i64 (.ofNat 1)) fun v48 =>
pIdxStr (.str [48, 49, 50, 51, 52, 53, 54, 55, 56, 57, 97, 98, 99, 100, 101, 102, 103, 104, 105, 106, 107, 108, 109, 110, 111, 112, 113, 114, 115, 116, 117, 118, 119, 120, 121, 122]) s37.2.2.2.2.2.2.2.2.2.1 fun v49 =>
pIdxP s37.2.2.2.2.1 v48 65 1 fun v50 =>
pStore h38 v50 v49 1 fun h51 =>
j13 (v48, s37.2.2.2.2.1, s37.2.2.2.2.2.1, s37.2.2.2.2.2.2.1, s37.2.2.2.2.2.2.2.1, s37.2.2.2.2.2.2.2.2.1, s37.2.2.2.2.2.2.2.2.2.2.1, ()) h51 d39)) (v36, v34, v33, s6.1, s6.2.1, s6.2.2.1, s6.2.2.2.1, s6.2.2.2.2.1, s6.2.2.2.2.2.1, s6.2.2.2.2.2.2.2.1, s6.2.2.2.2.2.2.2.2.1, ()) h32 d8) (
pConvI .u64 s6.2.2.2.2.2.2.1 fun v52 =>
loopC (σ := AV × AV × AV × AV × AV × AV × AV × AV × AV × Unit) NN (fun i56 s53 h54 d55 =>
pInt .geq s53.2.2.2.2.2.2.2.1 s53.1 fun v57 =>
pCond v57 (
pInt .sub s53.2.1 (.int .i64 (.ofNat 1)) fun v58 =>
pInt .quo s53.2.2.2.2.2.2.2.1 s53.1 fun v59 =>
pInt .mul v59 s53.1 fun v60 =>
pInt .sub s53.2.2.2.2.2.2.2.1 v60 fun v61 =>
pIdxStr (.str [48, 49, 50, 51, 52, 53, 54, 55, 56, 57, 97, 98, 99, 100, 101, 102, 103, 104, 105, 106, 107, 108, 109, 110, 111, 112, 113, 114, 115, 116, 117, 118, 119, 120, 121, 122]) v61 fun v62 =>
pIdxP s53.2.2.1 v58 65 1 fun v63 =>
pStore h54 v63 v62 1 fun h64 =>
i56 (s53.1, v58, s53.2.2.1, s53.2.2.2.1, s53.2.2.2.2.1, s53.2.2.2.2.2.1, s53.2.2.2.2.2.2.1, v59, s53.2.2.2.2.2.2.2.2.1, ()) h64 d55) (
pInt .sub s53.2.1 (.int .i64 (.ofNat 1)) fun v65 =>
pIdxStr (.str [48, 49, 50, 51, 52, 53, 54, 55, 56, 57, 97, 98, 99, 100, 101, 102, 103, 104, 105, 106, 107, 108, 109, 110, 111, 112, 113, 114, 115, 116, 117, 118, 119, 120, 121, 122]) s53.2.2.2.2.2.2.2.1 fun v66 =>
pIdxP s53.2.2.1 v65 65 1 fun v67 =>
pStore h54 v67 v66 1 fun h68 =>
j13 (v65, s53.2.2.1, s53.2.2.2.1, s53.2.2.2.2.1, s53.2.2.2.2.2.1, s53.2.2.2.2.2.2.1, s53.2.2.2.2.2.2.2.2.1, ()) h68 d55)) (v52, s6.1, s6.2.1, s6.2.2.1, s6.2.2.2.1, s6.2.2.2.2.1, s6.2.2.2.2.2.1, s6.2.2.2.2.2.2.2.1, s6.2.2.2.2.2.2.2.2.1, ()) h29 d8)) fun j9 =>
pCond s0.2.2.2.1 (
pUn .neg s0.2.2.2.2.2.1 fun v69 =>
j9 ((.int .i64 (.ofNat 65)), v4, s0.1, s0.2.1, s0.2.2.1, s0.2.2.2.1, s0.2.2.2.2.1, v69, s0.2.2.2.2.2.2.1, ()) h5 d2) (
j9 ((.int .i64 (.ofNat 65)), v4, s0.1, s0.2.1, s0.2.2.1, s0.2.2.2.1, s0.2.2.2.2.1, s0.2.2.2.2.2.1, s0.2.2.2.2.2.2.1, ()) h5 d2)) fun j3 =>
pInt .lss a2 (.int .i64 (.ofNat 2)) fun v70 =>
joinC (α := AV × AV × AV × AV × AV × AV × AV × AV × AV × Unit → AH → R) (fun s71 h72 =>
pPick s71.2.1 (.bool true) s71.1 fun v74 =>
joinC (α := AV × AV × AV × AV × AV × AV × AV × AV × AV × Unit → AH → R) (fun s75 h76 =>
pPick s75.2.1 (.bool true) s75.1 fun v78 =>
pCond v78 (
none /- op -/) (
j3 (s75.2.2.1, s75.2.2.2.1, s75.2.2.2.2.1, s75.2.2.2.2.2.1, s75.2.2.2.2.2.2.1, s75.2.2.2.2.2.2.2.1, s75.2.2.2.2.2.2.2.2.1, ()) h76 [])) fun j77 =>
pWant v74 false (
pInt .gtr s71.2.2.2.2.2.2.1 (.int .i64 (.ofNat 36)) fun v79 =>
j77 (v79, v74, s71.2.2.1, s71.2.2.2.1, s71.2.2.2.2.1, s71.2.2.2.2.2.1, s71.2.2.2.2.2.2.1, s71.2.2.2.2.2.2.2.1, s71.2.2.2.2.2.2.2.2.1, ()) h72) (
j77 (.undef, v74, s71.2.2.1, s71.2.2.2.1, s71.2.2.2.2.1, s71.2.2.2.2.2.1, s71.2.2.2.2.2.2.1, s71.2.2.2.2.2.2.2.1, s71.2.2.2.2.2.2.2.2.1, ()) h72)) fun j73 =>
pWant v70 false (
pInt .eql a2 (.int .i64 (.ofNat 10)) fun v80 =>
j73 (v80, v70, (.str []), .nils, a4, a3, a2, a1, a0, ()) h) (
j73 (.undef, v70, (.str []), .nils, a4, a3, a2, a1, a0, ()) h)
theorem S133_eq (c : CV) (a0 a1 a2 a3 a4 : AV) (h : AH) : enterK Tryz.prog NN P133 c 133 [a0, a1, a2, a3, a4] h = S133 c a0 a1 a2 a3 a4 h := by kernel_rfl
def W133 (c : CV) (l : List AV) (h : AH) : R := match l with | [a0, a1, a2, a3, a4] => S133 c a0 a1 a2 a3 a4 h | _ => none
theorem W133_ok : WOk Tryz.prog 133 W133 := by
  intro c l h r e
  unfold W133 at e
  split at e
  · exact ⟨P133, by rw [S133_eq]; exact e⟩
  · cases e
/- quietus/code.named -/
def P136 : Pl := (.n none .z (.n none (.n none (.r [[11, 7, 1, 0]]) .z) .z))
def S136 (_ : CV) (a0 a1 : AV) (h : AH) : R :=
pInt .lss a1 (.int .i64 (.ofNat 0)) fun v0 =>
joinC (α := AV × AV × AV × AV × Unit → AH → R) (fun s1 h2 =>
pPick s1.2.1 (.bool true) s1.1 fun v4 =>
pCond v4 (
some ((.str []), h2)) (
pIdxS s1.2.2.2.1 s1.2.2.1 1 fun v5 =>
pLoad1 h2 v5 fun v6 =>
some (v6, h2))) fun j3 =>
pWant v0 false (
pLenS a0 fun v7 =>
pInt .geq a1 v7 fun v8 =>
j3 (v8, v0, a1, a0, ()) h) (
j3 (.undef, v0, a1, a0, ()) h)
theorem S136_eq (c : CV) (a0 a1 : AV) (h : AH) : enterK Tryz.prog NN P136 c 136 [a0, a1] h = S136 c a0 a1 h := by kernel_rfl
def W136 (c : CV) (l : List AV) (h : AH) : R := match l with | [a0, a1] => S136 c a0 a1 h | _ => none
theorem W136_ok : WOk Tryz.prog 136 W136 := by
  intro c l h r e
  unfold W136 at e
  split at e
  · exact ⟨P136, by rw [S136_eq]; exact e⟩
  · cases e
/- quietus/code.names -/
def P137 : Pl := .z
def S137 (_ : CV) (h : AH) : R :=
pBuildS h 9 [(.str [])] 24 [(0, 1, (.str [])), (1, 1, (.str [115, 101, 116])), (2, 1, (.str [109, 111, 118, 101])), (3, 1, (.str [97, 100, 100])), (4, 1, (.str [115, 117, 98])), (5, 1, (.str [109, 117, 108])), (6, 1, (.str [108, 101, 115, 115])), (7, 1, (.str [101, 113, 117, 97, 108])), (8, 1, (.str [108, 111, 97, 100])), (9, 1, (.str [115, 116, 111, 114, 101])), (10, 1, (.str [97, 108, 108, 111, 99])), (11, 1, (.str [102, 114, 101, 101])), (12, 1, (.str [106, 117, 109, 112])), (13, 1, (.str [122, 101, 114, 111])), (14, 1, (.str [111, 112, 101, 110])), (15, 1, (.str [99, 108, 111, 115, 101])), (16, 1, (.str [117, 110, 100, 111])), (17, 1, (.str [101, 105, 116, 104, 101, 114])), (18, 1, (.str [111, 114])), (19, 1, (.str [100, 111, 110, 101])), (20, 1, (.str [114, 101, 116, 114, 121])), (21, 1, (.str [101, 109, 105, 116])), (22, 1, (.str [102, 97, 105, 108])), (23, 1, (.str [99, 97, 108, 108]))] fun v0 h1 =>
some (v0, h1)
theorem S137_eq (c : CV) (h : AH) : enterK Tryz.prog NN P137 c 137 [] h = S137 c h := by kernel_rfl
def W137 (c : CV) (l : List AV) (h : AH) : R := match l with | [] => S137 c h | _ => none
theorem W137_ok : WOk Tryz.prog 137 W137 := by
  intro c l h r e
  unfold W137 at e
  split at e
  · exact ⟨P137, by rw [S137_eq]; exact e⟩
  · cases e
/- quietus/draft.of -/
def P138 : Pl := (.n none .z (.n none .z (.n none (.n none .z (.n none (.n (some [14, 13, 12, 3, 0]) .z .z) .z)) (.n none (.n none .z (.n none (.n (some [28, 27, 26, 3]) .z .z) .z)) .z))))
def S138 (c : CV) (a0 : AV) (h : AH) : R :=
pCall c (.fn 162 [] []) [a0] h fun v0 h1 =>
pCall c (.fn 5 [] []) [v0, (.int .i64 (.ofNat 96))] h1 fun v2 h3 =>
pCall c (.fn 139 [] []) [a0] h3 fun v4 h5 =>
pLenS v4 fun v6 =>
loopC (σ := AV × AV × AV × AV × AV × Unit) NN (fun i10 s7 h8 d9 =>
pInt .lss s7.1 s7.2.1 fun v11 =>
pCond v11 (
pIdxS s7.2.2.1 s7.1 2 fun v12 =>
pLoadN h8 v12 2 fun v13 =>
pBox h8 74 (.agg [(.int .i64 (.ofNat 0)), (.int .u64 (.ofNat 0))]) fun v14 h15 =>
pStore h15 v14 v13 2 fun h16 =>
pFieldA v14 0 fun v17 =>
pLoad1 h16 v17 fun v18 =>
pFieldA v14 1 fun v19 =>
pLoad1 h16 v19 fun v20 =>
pCall c (.fn 9 [] []) [s7.2.2.2.1, v18, v20] h16 fun _ h22 =>
pInt .add s7.1 (.int .i64 (.ofNat 1)) fun v23 =>
i10 (v23, s7.2.1, s7.2.2.1, s7.2.2.2.1, s7.2.2.2.2.1, ()) h22 d9) (
pCall c (.fn 17 [] []) [s7.2.2.2.2.1] h8 fun v24 h25 =>
pLenS v24 fun v26 =>
loopC (σ := AV × AV × AV × AV × Unit) NN (fun i30 s27 h28 d29 =>
pInt .lss s27.1 s27.2.1 fun v31 =>
pCond v31 (
pIdxS s27.2.2.1 s27.1 2 fun v32 =>
pLoadN h28 v32 2 fun v33 =>
pBox h28 74 (.agg [(.int .i64 (.ofNat 0)), (.int .u64 (.ofNat 0))]) fun v34 h35 =>
pStore h35 v34 v33 2 fun h36 =>
pFieldA v34 0 fun v37 =>
pLoad1 h36 v37 fun v38 =>
pFieldA v34 1 fun v39 =>
pLoad1 h36 v39 fun v40 =>
pCall c (.fn 9 [] []) [s27.2.2.2.1, v38, v40] h36 fun _ h42 =>
pInt .add s27.1 (.int .i64 (.ofNat 1)) fun v43 =>
i30 (v43, s27.2.1, s27.2.2.1, s27.2.2.2.1, ()) h42 d29) (
pLeave d29 h28 fun h44 =>
some (s27.2.2.2.1, h44))) ((.int .i64 (.ofNat 0)), v26, v24, s7.2.2.2.1, ()) h25 d9)) ((.int .i64 (.ofNat 0)), v6, v4, v2, a0, ()) h5 []
theorem S138_eq (c : CV) (a0 : AV) (h : AH) : enterK Tryz.prog NN P138 c 138 [a0] h = S138 c a0 h := by kernel_rfl
def W138 (c : CV) (l : List AV) (h : AH) : R := match l with | [a0] => S138 c a0 h | _ => none
theorem W138_ok : WOk Tryz.prog 138 W138 := by
  intro c l h r e
  unfold W138 at e
  split at e
  · exact ⟨P138, by rw [S138_eq]; exact e⟩
  · cases e
/- (*quietus/view.View).Cells -/
def P139 : Pl := .z
def S139 (c : CV) (a0 : AV) (h : AH) : R :=
pNil a0 fun v0 =>
pFieldA v0 2 fun v1 =>
pLoad1 h v1 fun v2 =>
pCall c (.fn 174 [] []) [v2] h fun v3 h4 =>
some (v3, h4)
theorem S139_eq (c : CV) (a0 : AV) (h : AH) : enterK Tryz.prog NN P139 c 139 [a0] h = S139 c a0 h := by kernel_rfl
def W139 (c : CV) (l : List AV) (h : AH) : R := match l with | [a0] => S139 c a0 h | _ => none
theorem W139_ok : WOk Tryz.prog 139 W139 := by
  intro c l h r e
  unfold W139 at e
  split at e
  · exact ⟨P139, by rw [S139_eq]; exact e⟩
  · cases e
/- (*quietus/view.View).Frees -/
def P140 : Pl := .z
def S140 (c : CV) (a0 : AV) (h : AH) : R :=
pNil a0 fun v0 =>
pFieldA v0 2 fun v1 =>
pLoad1 h v1 fun v2 =>
pCall c (.fn 175 [] []) [v2] h fun v3 h4 =>
some (v3, h4)
theorem S140_eq (c : CV) (a0 : AV) (h : AH) : enterK Tryz.prog NN P140 c 140 [a0] h = S140 c a0 h := by kernel_rfl
def W140 (c : CV) (l : List AV) (h : AH) : R := match l with | [a0] => S140 c a0 h | _ => none
theorem W140_ok : WOk Tryz.prog 140 W140 := by
  intro c l h r e
  unfold W140 at e
  split at e
  · exact ⟨P140, by rw [S140_eq]; exact e⟩
  · cases e
/- (*quietus/draft.Draft).Step -/
def P141 : Pl := (.n none .z (.n none .z (.n (some [0]) .z .z)))
def S141 (c : CV) (a0 : AV) (h : AH) : R :=
pNil a0 fun v0 =>
pFieldA v0 2 fun v1 =>
pLoad1 h v1 fun v2 =>
pInt .add v2 (.int .i64 (.ofNat 1)) fun v3 =>
pNil a0 fun v4 =>
pFieldA v4 2 fun v5 =>
pStore h v5 v3 1 fun h6 =>
joinC (α := AV × Unit → AH → List Nat → R) (fun s7 h8 d9 =>
pCall c (.fn 86 [] []) [s7.1] h8 fun v11 h12 =>
pLeave d9 h12 fun h13 =>
some (v11, h13)) fun j10 =>
pNil a0 fun v14 =>
pFieldA v14 2 fun v15 =>
pLoad1 h6 v15 fun v16 =>
pInt .gtr v16 (.int .i64 (.ofNat 2048)) fun v17 =>
pCond v17 (
pCall c (.fn 143 [] []) [a0, (.int .i64 (.ofNat 2))] h6 fun _ h19 =>
j10 (a0, ()) h19 []) (
j10 (a0, ()) h6 [])
theorem S141_eq (c : CV) (a0 : AV) (h : AH) : enterK Tryz.prog NN P141 c 141 [a0] h = S141 c a0 h := by kernel_rfl
def W141 (c : CV) (l : List AV) (h : AH) : R := match l with | [a0] => S141 c a0 h | _ => none
theorem W141_ok : WOk Tryz.prog 141 W141 := by
  intro c l h r e
  unfold W141 at e
  split at e
  · exact ⟨P141, by rw [S141_eq]; exact e⟩
  · cases e
/- (*quietus/draft.Draft).Place -/
def P142 : Pl := .z
def S142 (c : CV) (a0 a1 : AV) (h : AH) : R :=
pCall c (.fn 92 [] []) [a0, a1] h fun v0 h1 =>
pCall c (.fn 176 [] []) [a0, v0] h1 fun v2 h3 =>
some (v2, h3)
theorem S142_eq (c : CV) (a0 a1 : AV) (h : AH) : enterK Tryz.prog NN P142 c 142 [a0, a1] h = S142 c a0 a1 h := by kernel_rfl
def W142 (c : CV) (l : List AV) (h : AH) : R := match l with | [a0, a1] => S142 c a0 a1 h | _ => none
theorem W142_ok : WOk Tryz.prog 142 W142 := by
  intro c l h r e
  unfold W142 at e
  split at e
  · exact ⟨P142, by rw [S142_eq]; exact e⟩
  · cases e
/- (*quietus/draft.Draft).Fail -/
def P143 : Pl := .z
def S143 (c : CV) (a0 a1 : AV) (h : AH) : R :=
pCall c (.fn 86 [] []) [a0] h fun v0 h1 =>
pCond v0 (
pNil a0 fun v2 =>
pFieldA v2 1 fun v3 =>
pStore h1 v3 a1 1 fun h4 =>
some ((.tup []), h4)) (
some ((.tup []), h1))
theorem S143_eq (c : CV) (a0 a1 : AV) (h : AH) : enterK Tryz.prog NN P143 c 143 [a0, a1] h = S143 c a0 a1 h := by kernel_rfl
def W143 (c : CV) (l : List AV) (h : AH) : R := match l with | [a0, a1] => S143 c a0 a1 h | _ => none
theorem W143_ok : WOk Tryz.prog 143 W143 := by
  intro c l h r e
  unfold W143 at e
  split at e
  · exact ⟨P143, by rw [S143_eq]; exact e⟩
  · cases e
/- quietus/table.chain -/
def P144 : Pl := .z
def S144 (_ : CV) (a0 a1 : AV) (h : AH) : R :=
pInt .mul a0 (.int .u64 (.ofNat 11400714819323198485)) fun v0 =>
pShift .shr v0 (.int .u64 (.ofNat 60)) fun v1 =>
pConvI .i64 v1 fun v2 =>
pInt .sub a1 (.int .i64 (.ofNat 1)) fun v3 =>
pInt .and v2 v3 fun v4 =>
some (v4, h)
theorem S144_eq (c : CV) (a0 a1 : AV) (h : AH) : enterK Tryz.prog NN P144 c 144 [a0, a1] h = S144 c a0 a1 h := by kernel_rfl
def W144 (c : CV) (l : List AV) (h : AH) : R := match l with | [a0, a1] => S144 c a0 a1 h | _ => none
theorem W144_ok : WOk Tryz.prog 144 W144 := by
  intro c l h r e
  unfold W144 at e
  split at e
  · exact ⟨P144, by rw [S144_eq]; exact e⟩
  · cases e
/- (*quietus/table.table).each -/
def P145 : Pl := (.n none .z (.n none (.n (some [11, 10, 1, 0]) (.n none .z (.n none .z (.n none (.n none (.n none .z (.n none .z (.n none (.n (some [11, 10, 5, 1, 0]) (.n none (.n none (.r [[32, 27, 11, 10, 5, 1, 0]]) .z) .z) .z) .z))) .z) .z))) .z) .z))
def S145 (c : CV) (a0 a1 : AV) (h : AH) : R :=
pNil a0 fun v0 =>
pFieldA v0 2 fun v1 =>
pLoad1 h v1 fun v2 =>
loopC (σ := AV × AV × AV × AV × Unit) NN (fun i6 s3 h4 d5 =>
pInt .lss s3.1 s3.2.1 fun v7 =>
pCond v7 (
pNil s3.2.2.2.1 fun v8 =>
pFieldA v8 0 fun v9 =>
pLoad1 h4 v9 fun v10 =>
pNil s3.2.2.2.1 fun v11 =>
pFieldA v11 3 fun v12 =>
pLoad1 h4 v12 fun v13 =>
pInt .add v13 s3.1 fun v14 =>
pCall c (.fn 142 [] []) [v10, v14] h4 fun v15 h16 =>
loopC (σ := AV × AV × AV × AV × AV × Unit) NN (fun i20 s17 h18 d19 =>
pInt .neq s17.2.2.1 (.int .i64 (.ofNat 0)) fun v21 =>
joinC (α := AV × AV × AV × AV × AV × AV × AV × Unit → AH → R) (fun s22 h23 =>
pPick s22.2.1 s22.1 (.bool false) fun v25 =>
pCond v25 (
pNil s22.2.2.2.2.2.2.1 fun v26 =>
pFieldA v26 0 fun v27 =>
pLoad1 h23 v27 fun v28 =>
pInt .add s22.2.2.2.2.1 (.int .i64 (.ofNat 2)) fun v29 =>
pCall c (.fn 142 [] []) [v28, v29] h23 fun v30 h31 =>
pCall c s22.2.2.2.2.2.1 [s22.2.2.2.2.1] h31 fun _ h33 =>
i20 (s22.2.2.1, s22.2.2.2.1, v30, s22.2.2.2.2.2.1, s22.2.2.2.2.2.2.1, ()) h33 d19) (
pInt .add s22.2.2.1 (.int .i64 (.ofNat 1)) fun v34 =>
i6 (v34, s22.2.2.2.1, s22.2.2.2.2.2.1, s22.2.2.2.2.2.2.1, ()) h23 d19)) fun j24 =>
pWant v21 true (
pNil s17.2.2.2.2.1 fun v35 =>
pFieldA v35 0 fun v36 =>
pLoad1 h18 v36 fun v37 =>
pCall c (.fn 141 [] []) [v37] h18 fun v38 h39 =>
j24 (v38, v21, s17.1, s17.2.1, s17.2.2.1, s17.2.2.2.1, s17.2.2.2.2.1, ()) h39) (
j24 (.undef, v21, s17.1, s17.2.1, s17.2.2.1, s17.2.2.2.1, s17.2.2.2.2.1, ()) h18)) (s3.1, s3.2.1, v15, s3.2.2.1, s3.2.2.2.1, ()) h16 d5) (
pLeave d5 h4 fun h40 =>
some ((.tup []), h40))) ((.int .i64 (.ofNat 0)), v2, a1, a0, ()) h []
theorem S145_eq (c : CV) (a0 a1 : AV) (h : AH) : enterK Tryz.prog NN P145 c 145 [a0, a1] h = S145 c a0 a1 h := by kernel_rfl
def W145 (c : CV) (l : List AV) (h : AH) : R := match l with | [a0, a1] => S145 c a0 a1 h | _ => none
theorem W145_ok : WOk Tryz.prog 145 W145 := by
  intro c l h r e
  unfold W145 at e
  split at e
  · exact ⟨P145, by rw [S145_eq]; exact e⟩
  · cases e
/- (*quietus/table.table).grow$1 -/
def P146 : Pl := (.n none (.r [[5, 3, 1, 0]]) .z)
def S146 (c : CV) (a0 a1 a2 a3 : AV) (h : AH) : R :=
joinC (α := AV × AV × AV × AV × Unit → AH → R) (fun s0 h1 =>
pLoad1 h1 s0.2.2.1 fun v3 =>
pNil v3 fun v4 =>
pFieldA v4 0 fun v5 =>
pLoad1 h1 v5 fun v6 =>
pInt .add s0.2.2.2.1 (.int .i64 (.ofNat 2)) fun v7 =>
pLoad1 h1 s0.2.1 fun v8 =>
pIdxS v8 s0.1 1 fun v9 =>
pLoad1 h1 v9 fun v10 =>
pCall c (.fn 90 [] []) [v6, v7, v10] h1 fun _ h12 =>
pLoad1 h12 s0.2.1 fun v13 =>
pIdxS v13 s0.1 1 fun v14 =>
pStore h12 v14 s0.2.2.2.1 1 fun h15 =>
some ((.tup []), h15)) fun j2 =>
pLoad1 h a1 fun v16 =>
pNil v16 fun v17 =>
pFieldA v17 0 fun v18 =>
pLoad1 h v18 fun v19 =>
pInt .add a0 (.int .i64 (.ofNat 0)) fun v20 =>
pCall c (.fn 92 [] []) [v19, v20] h fun v21 h22 =>
pLoad1 h22 a2 fun v23 =>
pCall c (.fn 144 [] []) [v21, v23] h22 fun v24 h25 =>
pChk a2 none v23 h h22 h.nx <|
j2 (v24, a3, a1, a0, ()) h25
theorem S146_eq (c : CV) (a0 a1 a2 a3 : AV) (h : AH) : enterK Tryz.prog NN P146 c 146 [a0, a1, a2, a3] h = S146 c a0 a1 a2 a3 h := by kernel_rfl
def W146 (c : CV) (l : List AV) (h : AH) : R := match l with | [a0, a1, a2, a3] => S146 c a0 a1 a2 a3 h | _ => none
theorem W146_ok : WOk Tryz.prog 146 W146 := by
  intro c l h r e
  unfold W146 at e
  split at e
  · exact ⟨P146, by rw [S146_eq]; exact e⟩
  · cases e
/- quietus/queue.Push$1 -/
def P147 : Pl := (.n none .z (.n (some [5, 4, 2, 0]) .z (.n none .z (.n none .z (.n none .z (.n (some [6, 4, 0]) .z .z))))))
def S147 (c : CV) (a0 a1 a2 : AV) (h : AH) : R :=
pLoad1 h a1 fun v0 =>
pCall c (.fn 142 [] []) [a0, v0] h fun v1 h2 =>
joinC (α := AV × AV × AV × AV × Unit → AH → List Nat → R) (fun s3 h4 d5 =>
pCall c (.fn 88 [] []) [s3.2.2.2.1, (.int .i64 (.ofNat 2))] h4 fun v7 h8 =>
pInt .add v7 (.int .i64 (.ofNat 0)) fun v9 =>
pLoad1 h8 s3.2.2.1 fun v10 =>
pCall c (.fn 89 [] []) [s3.2.2.2.1, v9, v10] h8 fun _ h12 =>
pInt .add v7 (.int .i64 (.ofNat 1)) fun v13 =>
pCall c (.fn 90 [] []) [s3.2.2.2.1, v13, (.int .i64 (.ofNat 0))] h12 fun _ h15 =>
joinC (α := AV × AV × AV × Unit → AH → List Nat → R) (fun s16 h17 d18 =>
pInt .add s16.2.1 (.int .i64 (.ofNat 1)) fun v20 =>
pCall c (.fn 90 [] []) [s16.2.2.1, v20, s16.1] h17 fun _ h22 =>
pLeave d18 h22 fun h23 =>
some ((.tup []), h23)) fun j19 =>
pInt .neq s3.1 (.int .i64 (.ofNat 0)) fun v24 =>
pCond v24 (
pInt .add s3.2.1 (.int .i64 (.ofNat 1)) fun v25 =>
pCall c (.fn 142 [] []) [s3.2.2.2.1, v25] h15 fun v26 h27 =>
pInt .add v26 (.int .i64 (.ofNat 1)) fun v28 =>
pCall c (.fn 90 [] []) [s3.2.2.2.1, v28, v7] h27 fun _ h30 =>
j19 (v7, s3.2.1, s3.2.2.2.1, ()) h30 d5) (
pInt .add s3.2.1 (.int .i64 (.ofNat 0)) fun v31 =>
pCall c (.fn 90 [] []) [s3.2.2.2.1, v31, v7] h15 fun _ h33 =>
j19 (v7, s3.2.1, s3.2.2.2.1, ()) h33 d5)) fun j6 =>
pInt .neq v1 (.int .i64 (.ofNat 0)) fun v34 =>
pCond v34 (
pInt .add v1 (.int .i64 (.ofNat 0)) fun v35 =>
pCall c (.fn 142 [] []) [a0, v35] h2 fun v36 h37 =>
j6 (v36, v1, a2, a0, ()) h37 []) (
pCall c (.fn 86 [] []) [a0] h2 fun v38 h39 =>
pCond v38 (
pCall c (.fn 88 [] []) [a0, (.int .i64 (.ofNat 2))] h39 fun v40 h41 =>
pLoad1 h41 a1 fun v42 =>
pCall c (.fn 90 [] []) [a0, v42, v40] h41 fun _ h44 =>
j6 ((.int .i64 (.ofNat 0)), v40, a2, a0, ()) h44 []) (
j6 ((.int .i64 (.ofNat 0)), v1, a2, a0, ()) h39 []))
theorem S147_eq (c : CV) (a0 a1 a2 : AV) (h : AH) : enterK Tryz.prog NN P147 c 147 [a0, a1, a2] h = S147 c a0 a1 a2 h := by kernel_rfl
def W147 (c : CV) (l : List AV) (h : AH) : R := match l with | [a0, a1, a2] => S147 c a0 a1 a2 h | _ => none
theorem W147_ok : WOk Tryz.prog 147 W147 := by
  intro c l h r e
  unfold W147 at e
  split at e
  · exact ⟨P147, by rw [S147_eq]; exact e⟩
  · cases e
/- quietus/queue.Take$1 -/
def P148 : Pl := .z
def S148 (c : CV) (a0 a1 a2 a3 : AV) (h : AH) : R :=
pLoad1 h a1 fun v0 =>
pCall c (.fn 142 [] []) [a0, v0] h fun v1 h2 =>
pInt .eql v1 (.int .i64 (.ofNat 0)) fun v3 =>
pCond v3 (
some ((.tup []), h2)) (
pInt .add v1 (.int .i64 (.ofNat 0)) fun v4 =>
pCall c (.fn 142 [] []) [a0, v4] h2 fun v5 h6 =>
pInt .eql v5 (.int .i64 (.ofNat 0)) fun v7 =>
pCond v7 (
some ((.tup []), h6)) (
pInt .add v5 (.int .i64 (.ofNat 0)) fun v8 =>
pCall c (.fn 92 [] []) [a0, v8] h6 fun v9 h10 =>
pStore h10 a2 v9 1 fun h11 =>
pStore h11 a3 (.bool true) 1 fun h12 =>
pInt .add v1 (.int .i64 (.ofNat 0)) fun v13 =>
pInt .add v5 (.int .i64 (.ofNat 1)) fun v14 =>
pCall c (.fn 92 [] []) [a0, v14] h12 fun v15 h16 =>
pCall c (.fn 89 [] []) [a0, v13, v15] h16 fun _ h18 =>
pCall c (.fn 93 [] []) [a0, v5] h18 fun _ h20 =>
some ((.tup []), h20)))
theorem S148_eq (c : CV) (a0 a1 a2 a3 : AV) (h : AH) : enterK Tryz.prog NN P148 c 148 [a0, a1, a2, a3] h = S148 c a0 a1 a2 a3 h := by kernel_rfl
def W148 (c : CV) (l : List AV) (h : AH) : R := match l with | [a0, a1, a2, a3] => S148 c a0 a1 a2 a3 h | _ => none
theorem W148_ok : WOk Tryz.prog 148 W148 := by
  intro c l h r e
  unfold W148 at e
  split at e
  · exact ⟨P148, by rw [S148_eq]; exact e⟩
  · cases e
/- (*quietus/tree.tree).child -/
def P149 : Pl := (.n none .z (.n none .z (.n none .z (.n none (.r [[6]]) .z))))
def S149 (c : CV) (a0 a1 a2 : AV) (h : AH) : R :=
pInt .eql a1 (.int .i64 (.ofNat 0)) fun v0 =>
pCond v0 (
pNil a0 fun v1 =>
pFieldA v1 0 fun v2 =>
pLoad1 h v2 fun v3 =>
pCall c (.fn 143 [] []) [v3, (.int .i64 (.ofNat 2))] h fun _ h5 =>
some ((.int .i64 (.ofNat 0)), h5)) (
pInt .eql a2 (.int .i64 (.ofNat 1)) fun v6 =>
pCond v6 (
pNil a0 fun v7 =>
pFieldA v7 0 fun v8 =>
pLoad1 h v8 fun v9 =>
pInt .add a1 (.int .i64 (.ofNat 3)) fun v10 =>
pCall c (.fn 142 [] []) [v9, v10] h fun v11 h12 =>
some (v11, h12)) (
joinC (α := AV × Unit → AH → R) (fun s13 h14 =>
some (s13.1, h14)) fun j15 =>
pNil a0 fun v16 =>
pFieldA v16 0 fun v17 =>
pLoad1 h v17 fun v18 =>
pNil a0 fun v19 =>
pFieldA v19 0 fun v20 =>
pLoad1 h v20 fun v21 =>
pInt .add a1 (.int .i64 (.ofNat 2)) fun v22 =>
pCall c (.fn 92 [] []) [v21, v22] h fun v23 h24 =>
pShift .shr v23 (.int .u64 (.ofNat 1)) fun v25 =>
pCall c (.fn 176 [] []) [v18, v25] h24 fun v26 h27 =>
pChk v17 none v18 h h24 h.nx <|
j15 (v26, ()) h27))
theorem S149_eq (c : CV) (a0 a1 a2 : AV) (h : AH) : enterK Tryz.prog NN P149 c 149 [a0, a1, a2] h = S149 c a0 a1 a2 h := by kernel_rfl
def W149 (c : CV) (l : List AV) (h : AH) : R := match l with | [a0, a1, a2] => S149 c a0 a1 a2 h | _ => none
theorem W149_ok : WOk Tryz.prog 149 W149 := by
  intro c l h r e
  unfold W149 at e
  split at e
  · exact ⟨P149, by rw [S149_eq]; exact e⟩
  · cases e
/- (*quietus/tree.tree).hang -/
def P150 : Pl := (.n none .z (.r [[]]))
def S150 (c : CV) (a0 a1 a2 a3 : AV) (h : AH) : R :=
pInt .eql a2 (.int .i64 (.ofNat 1)) fun v0 =>
pCond v0 (
pNil a0 fun v1 =>
pFieldA v1 0 fun v2 =>
pLoad1 h v2 fun v3 =>
pInt .add a1 (.int .i64 (.ofNat 3)) fun v4 =>
pCall c (.fn 90 [] []) [v3, v4, a3] h fun _ h6 =>
some ((.tup []), h6)) (
joinC (α := Unit → AH → R) (fun _ h8 =>
some ((.tup []), h8)) fun j9 =>
pNil a0 fun v10 =>
pFieldA v10 0 fun v11 =>
pLoad1 h v11 fun v12 =>
pInt .add a1 (.int .i64 (.ofNat 2)) fun v13 =>
pConvI .u64 a3 fun v14 =>
pShift .shl v14 (.int .u64 (.ofNat 1)) fun v15 =>
pNil a0 fun v16 =>
pFieldA v16 0 fun v17 =>
pLoad1 h v17 fun v18 =>
pInt .add a1 (.int .i64 (.ofNat 2)) fun v19 =>
pCall c (.fn 92 [] []) [v18, v19] h fun v20 h21 =>
pInt .and v20 (.int .u64 (.ofNat 1)) fun v22 =>
pInt .or v15 v22 fun v23 =>
pCall c (.fn 89 [] []) [v12, v13, v23] h21 fun _ h25 =>
pChk v11 none v12 h h21 h.nx <|
j9 (()) h25)
theorem S150_eq (c : CV) (a0 a1 a2 a3 : AV) (h : AH) : enterK Tryz.prog NN P150 c 150 [a0, a1, a2, a3] h = S150 c a0 a1 a2 a3 h := by kernel_rfl
def W150 (c : CV) (l : List AV) (h : AH) : R := match l with | [a0, a1, a2, a3] => S150 c a0 a1 a2 a3 h | _ => none
theorem W150_ok : WOk Tryz.prog 150 W150 := by
  intro c l h r e
  unfold W150 at e
  split at e
  · exact ⟨P150, by rw [S150_eq]; exact e⟩
  · cases e
/- (*quietus/tree.tree).red -/
def P151 : Pl := (.n none .z (.n none (.r [[16, 7]]) .z))
def S151 (c : CV) (a0 a1 : AV) (h : AH) : R :=
pInt .neq a1 (.int .i64 (.ofNat 0)) fun v0 =>
joinC (α := AV × AV × Unit → AH → R) (fun s1 h2 =>
pPick s1.2.1 s1.1 (.bool false) fun v4 =>
some (v4, h2)) fun j3 =>
pWant v0 true (
pNil a0 fun v5 =>
pFieldA v5 0 fun v6 =>
pLoad1 h v6 fun v7 =>
pInt .add a1 (.int .i64 (.ofNat 2)) fun v8 =>
pCall c (.fn 92 [] []) [v7, v8] h fun v9 h10 =>
pInt .and v9 (.int .u64 (.ofNat 1)) fun v11 =>
pInt .eql v11 (.int .u64 (.ofNat 1)) fun v12 =>
j3 (v12, v0, ()) h10) (
j3 (.undef, v0, ()) h)
theorem S151_eq (c : CV) (a0 a1 : AV) (h : AH) : enterK Tryz.prog NN P151 c 151 [a0, a1] h = S151 c a0 a1 h := by kernel_rfl
def W151 (c : CV) (l : List AV) (h : AH) : R := match l with | [a0, a1] => S151 c a0 a1 h | _ => none
theorem W151_ok : WOk Tryz.prog 151 W151 := by
  intro c l h r e
  unfold W151 at e
  split at e
  · exact ⟨P151, by rw [S151_eq]; exact e⟩
  · cases e
/- (*quietus/tree.tree).straight -/
def P152 : Pl := (.n none .z (.n (some [5, 0]) (.n none .z (.n none (.r [[5, 0]]) .z)) .z))
def S152 (c : CV) (a0 a1 a2 : AV) (h : AH) : R :=
pBox h 181 a1 fun v0 h1 =>
pBox h1 181 a2 fun v2 h3 =>
joinC (α := AV × AV × Unit → AH → List Nat → R) (fun s4 h5 d6 =>
pFieldA s4.1 0 fun v8 =>
pLoad1 h5 v8 fun v9 =>
pFieldA s4.1 1 fun v10 =>
pLoad1 h5 v10 fun v11 =>
pInt .sub (.int .i64 (.ofNat 1)) v11 fun v12 =>
pCall c (.fn 177 [] []) [s4.2.1, v9, v12] h5 fun v13 h14 =>
pCall c (.fn 153 [] []) [s4.2.1, v13, (.bool false)] h14 fun _ h16 =>
pFieldA s4.1 0 fun v17 =>
pLoad1 h16 v17 fun v18 =>
pCall c (.fn 153 [] []) [s4.2.1, v18, (.bool true)] h16 fun _ h20 =>
pNil s4.2.1 fun v21 =>
pFieldA v21 2 fun v22 =>
pLoad1 h20 v22 fun v23 =>
pLenS v23 fun v24 =>
pInt .sub v24 (.int .i64 (.ofNat 2)) fun v25 =>
pCall c (.fn 108 [] []) [s4.2.1, v25, v13] h20 fun _ h27 =>
pLeave d6 h27 fun h28 =>
some ((.tup []), h28)) fun j7 =>
pFieldA v0 1 fun v29 =>
pLoad1 h3 v29 fun v30 =>
pFieldA v2 1 fun v31 =>
pLoad1 h3 v31 fun v32 =>
pInt .neq v30 v32 fun v33 =>
pCond v33 (
joinC (α := AV × AV × Unit → AH → R) (fun s34 h35 =>
j7 (s34.1, s34.2.1, ()) h35 []) fun j36 =>
pFieldA v2 0 fun v37 =>
pLoad1 h3 v37 fun v38 =>
pFieldA v2 1 fun v39 =>
pLoad1 h3 v39 fun v40 =>
pFieldA v0 0 fun v41 =>
pLoad1 h3 v41 fun v42 =>
pFieldA v2 1 fun v43 =>
pLoad1 h3 v43 fun v44 =>
pCall c (.fn 177 [] []) [a0, v42, v44] h3 fun v45 h46 =>
pCall c (.fn 150 [] []) [a0, v38, v40, v45] h46 fun _ h48 =>
pChk v39 none v40 h3 h46 h3.nx <|
pChk v37 none v38 h3 h46 h3.nx <|
j36 (v2, a0, ()) h48) (
j7 (v2, a0, ()) h3 [])
theorem S152_eq (c : CV) (a0 a1 a2 : AV) (h : AH) : enterK Tryz.prog NN P152 c 152 [a0, a1, a2] h = S152 c a0 a1 a2 h := by kernel_rfl
def W152 (c : CV) (l : List AV) (h : AH) : R := match l with | [a0, a1, a2] => S152 c a0 a1 a2 h | _ => none
theorem W152_ok : WOk Tryz.prog 152 W152 := by
  intro c l h r e
  unfold W152 at e
  split at e
  · exact ⟨P152, by rw [S152_eq]; exact e⟩
  · cases e
/- (*quietus/tree.tree).paint -/
def P153 : Pl := .z
def S153 (c : CV) (a0 a1 a2 : AV) (h : AH) : R :=
pInt .eql a1 (.int .i64 (.ofNat 0)) fun v0 =>
pCond v0 (
pNil a0 fun v1 =>
pFieldA v1 0 fun v2 =>
pLoad1 h v2 fun v3 =>
pCall c (.fn 143 [] []) [v3, (.int .i64 (.ofNat 2))] h fun _ h5 =>
some ((.tup []), h5)) (
pNil a0 fun v6 =>
pFieldA v6 0 fun v7 =>
pLoad1 h v7 fun v8 =>
pInt .add a1 (.int .i64 (.ofNat 2)) fun v9 =>
pCall c (.fn 92 [] []) [v8, v9] h fun v10 h11 =>
pInt .and v10 (.int .u64 (.ofNat 1)) fun v12 =>
pInt .eql v12 (.int .u64 (.ofNat 1)) fun v13 =>
pEq .bool true v13 a2 fun v14 =>
pCond v14 (
pNil a0 fun v15 =>
pFieldA v15 0 fun v16 =>
pLoad1 h11 v16 fun v17 =>
pInt .add a1 (.int .i64 (.ofNat 2)) fun v18 =>
pInt .xor v10 (.int .u64 (.ofNat 1)) fun v19 =>
pCall c (.fn 89 [] []) [v17, v18, v19] h11 fun _ h21 =>
some ((.tup []), h21)) (
some ((.tup []), h11)))
theorem S153_eq (c : CV) (a0 a1 a2 : AV) (h : AH) : enterK Tryz.prog NN P153 c 153 [a0, a1, a2] h = S153 c a0 a1 a2 h := by kernel_rfl
def W153 (c : CV) (l : List AV) (h : AH) : R := match l with | [a0, a1, a2] => S153 c a0 a1 a2 h | _ => none
theorem W153_ok : WOk Tryz.prog 153 W153 := by
  intro c l h r e
  unfold W153 at e
  split at e
  · exact ⟨P153, by rw [S153_eq]; exact e⟩
  · cases e
/- (*quietus/tree.tree).heir -/
def P154 : Pl := (.n none .z (.n none .z (.n none .z (.n none (.n (some [1]) (.n (some [1, 0]) .z .z) .z) .z))))
def S154 (c : CV) (a0 a1 : AV) (h : AH) : R :=
pNil a0 fun v0 =>
pFieldA v0 2 fun v1 =>
pLoad1 h v1 fun v2 =>
pBuild [(.int .i64 (.ofNat 0)), (.int .i64 (.ofNat 0))] [(0, 1, a1), (1, 1, (.int .i64 (.ofNat 1)))] fun v3 =>
pBuildS h 181 [(.int .i64 (.ofNat 0)), (.int .i64 (.ofNat 0))] 1 [(0, 2, v3)] fun v4 h5 =>
pAppend h5 181 2 v2 v4 fun v6 h7 =>
pNil a0 fun v8 =>
pFieldA v8 2 fun v9 =>
pStore h7 v9 v6 1 fun h10 =>
pCall c (.fn 149 [] []) [a0, a1, (.int .i64 (.ofNat 1))] h10 fun v11 h12 =>
joinC (α := AV × Unit → AH → List Nat → R) (fun s13 h14 d15 =>
pLeave d15 h14 fun h17 =>
some (s13.1, h17)) fun j16 =>
loopC (σ := AV × AV × Unit) NN (fun i21 s18 h19 d20 =>
pNil s18.2.1 fun v22 =>
pFieldA v22 0 fun v23 =>
pLoad1 h19 v23 fun v24 =>
pCall c (.fn 141 [] []) [v24] h19 fun v25 h26 =>
pCond v25 (
pCall c (.fn 149 [] []) [s18.2.1, s18.1, (.int .i64 (.ofNat 0))] h26 fun v27 h28 =>
pInt .eql v27 (.int .i64 (.ofNat 0)) fun v29 =>
pCond v29 (
j16 (s18.1, ()) h28 d20) (
pNil s18.2.1 fun v30 =>
pFieldA v30 2 fun v31 =>
pLoad1 h28 v31 fun v32 =>
pBuild [(.int .i64 (.ofNat 0)), (.int .i64 (.ofNat 0))] [(0, 1, s18.1), (1, 1, (.int .i64 (.ofNat 0)))] fun v33 =>
pBuildS h28 181 [(.int .i64 (.ofNat 0)), (.int .i64 (.ofNat 0))] 1 [(0, 2, v33)] fun v34 h35 =>
pAppend h35 181 2 v32 v34 fun v36 h37 =>
pNil s18.2.1 fun v38 =>
pFieldA v38 2 fun v39 =>
pStore h37 v39 v36 1 fun h40 =>
i21 (v27, s18.2.1, ()) h40 d20)) (
j16 (s18.1, ()) h26 d20)) (v11, a0, ()) h12 []
theorem S154_eq (c : CV) (a0 a1 : AV) (h : AH) : enterK Tryz.prog NN P154 c 154 [a0, a1] h = S154 c a0 a1 h := by kernel_rfl
def W154 (c : CV) (l : List AV) (h : AH) : R := match l with | [a0, a1] => S154 c a0 a1 h | _ => none
theorem W154_ok : WOk Tryz.prog 154 W154 := by
  intro c l h r e
  unfold W154 at e
  split at e
  · exact ⟨P154, by rw [S154_eq]; exact e⟩
  · cases e
end
end Go.Proofs.YtpnlmmecgkjehaaGreatDoor
