/- Printed by a program of mine: the bodies of the program's functions aa terms of the primitives of the abstract executor, each shown equal by the kernel. -/
import Derived.Test.YtbmjiabdcnnkiaaGreatDoorProg
import Derived.Test.YtbmjiabdcnnkiaaGreatDoorAe1
import Derived.KernelRfl
namespace Go.Proofs.YtbmjiabdcnnkiaaGreatDoor
open Go Go.Ae
set_option maxRecDepth 100000
noncomputable section
/- (*quietus/patience.Patience).Stop -/
def P340 : Pl := .z
def S340 (_ : CV) (a0 a1 a2 a3 : AV) (h : AH) : R :=
pNil a0 fun v0 =>
pFieldA v0 2 fun v1 =>
pStore h v1 a1 1 fun h2 =>
pNil a0 fun v3 =>
pFieldA v3 4 fun v4 =>
pStore h2 v4 a2 1 fun h5 =>
pNil a0 fun v6 =>
pFieldA v6 3 fun v7 =>
pStore h5 v7 a3 1 fun h8 =>
some ((.tup []), h8)
theorem S340_eq (c : CV) (a0 a1 a2 a3 : AV) (h : AH) : enterK Tryz.prog NN P340 c 340 [a0, a1, a2, a3] h = S340 c a0 a1 a2 a3 h := by kernel_rfl
def W340 (c : CV) (l : List AV) (h : AH) : R := match l with | [a0, a1, a2, a3] => S340 c a0 a1 a2 a3 h | _ => none
theorem W340_ok : WOk Tryz.prog 340 W340 := by
  intro c l h r e
  unfold W340 at e
  split at e
  · exact ⟨P340, by rw [S340_eq]; exact e⟩
  · cases e
/- (*quietus/fetch.Fetch).found -/
def P341 : Pl := (.n none .z (.n none .z (.n (some []) .z .z)))
def S341 (c : CV) (a0 a1 : AV) (h : AH) : R :=
pBox h 38 a1 fun v0 h1 =>
pNil a0 fun v2 =>
pFieldA v2 8 fun v3 =>
pStore h1 v3 (.int .i64 (.ofNat 0)) 1 fun h4 =>
joinC (α := Unit → AH → List Nat → R) (fun _ h6 d7 =>
pLeave d7 h6 fun h9 =>
some ((.tup []), h9)) fun j8 =>
pFieldA v0 1 fun v10 =>
pLoad1 h4 v10 fun v11 =>
pCond v11 (
pNil a0 fun v12 =>
pFieldA v12 0 fun v13 =>
pLoadN h4 v0 3 fun v14 =>
pCall c (.fn 342 [] []) [v13, v14] h4 fun v15 h16 =>
pUn .not v15 fun v17 =>
pCond v17 (
pNil a0 fun v18 =>
pFieldA v18 0 fun v19 =>
pFieldA v0 2 fun v20 =>
pLoad1 h16 v20 fun v21 =>
pCall c (.fn 340 [] []) [v19, (.int .i64 (.ofNat 5)), (.int .i64 (.ofNat 0)), v21] h16 fun _ h23 =>
j8 (()) h23 []) (
j8 (()) h16 [])) (
pFieldA v0 0 fun v24 =>
pLoad1 h4 v24 fun v25 =>
pNil a0 fun v26 =>
pFieldA v26 7 fun v27 =>
pLoad1 h4 v27 fun v28 =>
pInt .gtr v25 v28 fun v29 =>
pCond v29 (
pNil a0 fun v30 =>
pFieldA v30 0 fun v31 =>
pCall c (.fn 340 [] []) [v31, (.int .i64 (.ofNat 6)), (.int .i64 (.ofNat 0)), (.int .i64 (.negSucc 0))] h4 fun _ h33 =>
j8 (()) h33 []) (
pLoadN h4 v0 3 fun v34 =>
pNil a0 fun v35 =>
pFieldA v35 9 fun v36 =>
pStore h4 v36 v34 3 fun h37 =>
pNil a0 fun v38 =>
pFieldA v38 8 fun v39 =>
pStore h37 v39 (.int .i64 (.ofNat 1)) 1 fun h40 =>
j8 (()) h40 []))
theorem S341_eq (c : CV) (a0 a1 : AV) (h : AH) : enterK Tryz.prog NN P341 c 341 [a0, a1] h = S341 c a0 a1 h := by kernel_rfl
def W341 (c : CV) (l : List AV) (h : AH) : R := match l with | [a0, a1] => S341 c a0 a1 h | _ => none
theorem W341_ok : WOk Tryz.prog 341 W341 := by
  intro c l h r e
  unfold W341 at e
  split at e
  · exact ⟨P341, by rw [S341_eq]; exact e⟩
  · cases e
/- (*quietus/patience.Patience).Waits -/
def P342 : Pl := .z
def S342 (_ : CV) (a0 a1 : AV) (h : AH) : R :=
pBox h 38 a1 fun v0 h1 =>
pFieldA v0 2 fun v2 =>
pLoad1 h1 v2 fun v3 =>
pNil a0 fun v4 =>
pFieldA v4 0 fun v5 =>
pLoad1 h1 v5 fun v6 =>
pInt .gtr v3 v6 fun v7 =>
pCond v7 (
some ((.bool true), h1)) (
pNil a0 fun v8 =>
pFieldA v8 1 fun v9 =>
pLoad1 h1 v9 fun v10 =>
pInt .sub v10 (.int .i64 (.ofNat 1)) fun v11 =>
pNil a0 fun v12 =>
pFieldA v12 1 fun v13 =>
pStore h1 v13 v11 1 fun h14 =>
pNil a0 fun v15 =>
pFieldA v15 1 fun v16 =>
pLoad1 h14 v16 fun v17 =>
pInt .geq v17 (.int .i64 (.ofNat 0)) fun v18 =>
some (v18, h14))
theorem S342_eq (c : CV) (a0 a1 : AV) (h : AH) : enterK Tryz.prog NN P342 c 342 [a0, a1] h = S342 c a0 a1 h := by kernel_rfl
def W342 (c : CV) (l : List AV) (h : AH) : R := match l with | [a0, a1] => S342 c a0 a1 h | _ => none
theorem W342_ok : WOk Tryz.prog 342 W342 := by
  intro c l h r e
  unfold W342 at e
  split at e
  · exact ⟨P342, by rw [S342_eq]; exact e⟩
  · cases e
/- (*quietus/extend.Extend).By -/
def P343 : Pl := .z
def S343 (c : CV) (a0 : AV) (h : AH) : R :=
pNil a0 fun v0 =>
pFieldA v0 0 fun v1 =>
pCall c (.fn 338 [] []) [v1] h fun v2 h3 =>
some (v2, h3)
theorem S343_eq (c : CV) (a0 : AV) (h : AH) : enterK Tryz.prog NN P343 c 343 [a0] h = S343 c a0 h := by kernel_rfl
def W343 (c : CV) (l : List AV) (h : AH) : R := match l with | [a0] => S343 c a0 h | _ => none
theorem W343_ok : WOk Tryz.prog 343 W343 := by
  intro c l h r e
  unfold W343 at e
  split at e
  · exact ⟨P343, by rw [S343_eq]; exact e⟩
  · cases e
/- (*quietus/extend.Extend).Next -/
def P344 : Pl := .z
def S344 (c : CV) (a0 : AV) (h : AH) : R :=
pBox h 40 (.agg [(.int .i64 (.ofNat 0)), (.int .i64 (.ofNat 0)), (.int .u64 (.ofNat 0)), (.int .u64 (.ofNat 0)), (.int .u64 (.ofNat 0)), (.bool false), (.int .i64 (.ofNat 0)), (.int .u64 (.ofNat 0)), (.bool false), (.int .i64 (.ofNat 0))]) fun v0 h1 =>
pNil a0 fun v2 =>
pFieldA v2 0 fun v3 =>
pCall c (.fn 96 [] []) [v3] h1 fun v4 h5 =>
pInt .neq v4 (.int .i64 (.ofNat 0)) fun v6 =>
pCond v6 (
pBuild [(.int .i64 (.ofNat 0)), (.int .i64 (.ofNat 0)), (.int .u64 (.ofNat 0)), (.int .u64 (.ofNat 0)), (.int .u64 (.ofNat 0)), (.bool false), (.int .i64 (.ofNat 0)), (.int .u64 (.ofNat 0)), (.bool false), (.int .i64 (.ofNat 0))] [] fun v7 =>
pStore h5 v0 v7 10 fun h8 =>
pLoadN h8 v0 10 fun v9 =>
some ((.tup [v9, (.bool false)]), h8)) (
pNil a0 fun v10 =>
pFieldA v10 6 fun v11 =>
pLoad1 h5 v11 fun v12 =>
pUn .not v12 fun v13 =>
pCond v13 (
pBuild [(.int .i64 (.ofNat 0)), (.int .i64 (.ofNat 0)), (.int .u64 (.ofNat 0)), (.int .u64 (.ofNat 0)), (.int .u64 (.ofNat 0)), (.bool false), (.int .i64 (.ofNat 0)), (.int .u64 (.ofNat 0)), (.bool false), (.int .i64 (.ofNat 0))] [(0, 1, (.int .i64 (.ofNat 6)))] fun v14 =>
pStore h5 v0 v14 10 fun h15 =>
pLoadN h15 v0 10 fun v16 =>
some ((.tup [v16, (.bool true)]), h15)) (
pNil a0 fun v17 =>
pFieldA v17 5 fun v18 =>
pLoad1 h5 v18 fun v19 =>
pNil a0 fun v20 =>
pFieldA v20 7 fun v21 =>
pLoad1 h5 v21 fun v22 =>
pIdxS v19 v22 2 fun v23 =>
pFieldA v23 0 fun v24 =>
pLoad1 h5 v24 fun v25 =>
pBuild [(.int .i64 (.ofNat 0)), (.int .i64 (.ofNat 0)), (.int .u64 (.ofNat 0)), (.int .u64 (.ofNat 0)), (.int .u64 (.ofNat 0)), (.bool false), (.int .i64 (.ofNat 0)), (.int .u64 (.ofNat 0)), (.bool false), (.int .i64 (.ofNat 0))] [(0, 1, (.int .i64 (.ofNat 3))), (1, 1, v25)] fun v26 =>
pStore h5 v0 v26 10 fun h27 =>
pLoadN h27 v0 10 fun v28 =>
some ((.tup [v28, (.bool true)]), h27)))
theorem S344_eq (c : CV) (a0 : AV) (h : AH) : enterK Tryz.prog NN P344 c 344 [a0] h = S344 c a0 h := by kernel_rfl
def W344 (c : CV) (l : List AV) (h : AH) : R := match l with | [a0] => S344 c a0 h | _ => none
theorem W344_ok : WOk Tryz.prog 344 W344 := by
  intro c l h r e
  unfold W344 at e
  split at e
  · exact ⟨P344, by rw [S344_eq]; exact e⟩
  · cases e
/- (*quietus/extend.Extend).Tell -/
def P345 : Pl := (.n none .z (.n none (.n (some [0]) (.n none .z (.n none .z (.n none .z (.n none (.r [[0]]) (.n none .z (.n none (.n (some []) .z .z) .z)))))) .z) .z))
def S345 (c : CV) (a0 a1 : AV) (h : AH) : R :=
pBox h 47 a1 fun v0 h1 =>
joinC (α := AV × Unit → AH → List Nat → R) (fun s2 h3 d4 =>
pNil s2.1 fun v6 =>
pFieldA v6 7 fun v7 =>
pLoad1 h3 v7 fun v8 =>
pNil s2.1 fun v9 =>
pFieldA v9 5 fun v10 =>
pLoad1 h3 v10 fun v11 =>
pLenS v11 fun v12 =>
pInt .eql v8 v12 fun v13 =>
pCond v13 (
pNil s2.1 fun v14 =>
pFieldA v14 0 fun v15 =>
pCall c (.fn 340 [] []) [v15, (.int .i64 (.ofNat 2)), (.int .i64 (.ofNat 0)), (.int .i64 (.negSucc 0))] h3 fun _ h17 =>
pLeave d4 h17 fun h18 =>
some ((.tup []), h18)) (
pLeave d4 h3 fun h19 =>
some ((.tup []), h19))) fun j5 =>
pNil a0 fun v20 =>
pFieldA v20 0 fun v21 =>
pLoadN h1 v0 6 fun v22 =>
pCall c (.fn 339 [] []) [v21, v22] h1 fun v23 h24 =>
pCond v23 (
some ((.tup []), h24)) (
pNil a0 fun v25 =>
pFieldA v25 6 fun v26 =>
pLoad1 h24 v26 fun v27 =>
pUn .not v27 fun v28 =>
pCond v28 (
joinC (α := AV × Unit → AH → R) (fun s29 h30 =>
j5 (s29.1, ()) h30 []) fun j31 =>
pFieldA v0 0 fun v32 =>
pLoad1 h24 v32 fun v33 =>
pNil a0 fun v34 =>
pFieldA v34 6 fun v35 =>
pStore h24 v35 (.bool true) 1 fun h36 =>
pNil a0 fun v37 =>
pFieldA v37 8 fun v38 =>
pStore h36 v38 v33 1 fun h39 =>
pChk v32 none v33 h24 h36 h24.nx <|
j31 (a0, ()) h39) (
pFieldA v0 1 fun v40 =>
pFieldA v40 1 fun v41 =>
pLoad1 h24 v41 fun v42 =>
pCond v42 (
joinC (α := Unit → AH → List Nat → R) (fun _ h44 d45 =>
pLeave d45 h44 fun h47 =>
some ((.tup []), h47)) fun j46 =>
pNil a0 fun v48 =>
pFieldA v48 0 fun v49 =>
pFieldA v0 1 fun v50 =>
pLoadN h24 v50 3 fun v51 =>
pCall c (.fn 342 [] []) [v49, v51] h24 fun v52 h53 =>
pUn .not v52 fun v54 =>
pCond v54 (
pNil a0 fun v55 =>
pFieldA v55 0 fun v56 =>
pFieldA v0 1 fun v57 =>
pFieldA v57 2 fun v58 =>
pLoad1 h53 v58 fun v59 =>
pCall c (.fn 340 [] []) [v56, (.int .i64 (.ofNat 5)), (.int .i64 (.ofNat 0)), v59] h53 fun _ h61 =>
j46 (()) h61 []) (
j46 (()) h53 [])) (
pFieldA v0 1 fun v62 =>
pFieldA v62 0 fun v63 =>
pLoad1 h24 v63 fun v64 =>
pNil a0 fun v65 =>
pFieldA v65 5 fun v66 =>
pLoad1 h24 v66 fun v67 =>
pNil a0 fun v68 =>
pFieldA v68 7 fun v69 =>
pLoad1 h24 v69 fun v70 =>
pIdxS v67 v70 2 fun v71 =>
pFieldA v71 1 fun v72 =>
pLoad1 h24 v72 fun v73 =>
pInt .neq v64 v73 fun v74 =>
pCond v74 (
pNil a0 fun v75 =>
pFieldA v75 0 fun v76 =>
pCall c (.fn 340 [] []) [v76, (.int .i64 (.ofNat 5)), (.int .i64 (.ofNat 0)), (.int .i64 (.negSucc 0))] h24 fun _ h78 =>
some ((.tup []), h78)) (
pNil a0 fun v79 =>
pFieldA v79 7 fun v80 =>
pLoad1 h24 v80 fun v81 =>
pInt .add v81 (.int .i64 (.ofNat 1)) fun v82 =>
pNil a0 fun v83 =>
pFieldA v83 7 fun v84 =>
pStore h24 v84 v82 1 fun h85 =>
j5 (a0, ()) h85 []))))
theorem S345_eq (c : CV) (a0 a1 : AV) (h : AH) : enterK Tryz.prog NN P345 c 345 [a0, a1] h = S345 c a0 a1 h := by kernel_rfl
def W345 (c : CV) (l : List AV) (h : AH) : R := match l with | [a0, a1] => S345 c a0 a1 h | _ => none
theorem W345_ok : WOk Tryz.prog 345 W345 := by
  intro c l h r e
  unfold W345 at e
  split at e
  · exact ⟨P345, by rw [S345_eq]; exact e⟩
  · cases e
/- (*quietus/commit.Commit).By -/
def P346 : Pl := .z
def S346 (c : CV) (a0 : AV) (h : AH) : R :=
pNil a0 fun v0 =>
pFieldA v0 0 fun v1 =>
pCall c (.fn 338 [] []) [v1] h fun v2 h3 =>
some (v2, h3)
theorem S346_eq (c : CV) (a0 : AV) (h : AH) : enterK Tryz.prog NN P346 c 346 [a0] h = S346 c a0 h := by kernel_rfl
def W346 (c : CV) (l : List AV) (h : AH) : R := match l with | [a0] => S346 c a0 h | _ => none
theorem W346_ok : WOk Tryz.prog 346 W346 := by
  intro c l h r e
  unfold W346 at e
  split at e
  · exact ⟨P346, by rw [S346_eq]; exact e⟩
  · cases e
/- (*quietus/commit.Commit).Next -/
def P347 : Pl := .z
def S347 (c : CV) (a0 : AV) (h : AH) : R :=
pBox h 40 (.agg [(.int .i64 (.ofNat 0)), (.int .i64 (.ofNat 0)), (.int .u64 (.ofNat 0)), (.int .u64 (.ofNat 0)), (.int .u64 (.ofNat 0)), (.bool false), (.int .i64 (.ofNat 0)), (.int .u64 (.ofNat 0)), (.bool false), (.int .i64 (.ofNat 0))]) fun v0 h1 =>
pNil a0 fun v2 =>
pFieldA v2 0 fun v3 =>
pCall c (.fn 96 [] []) [v3] h1 fun v4 h5 =>
pInt .neq v4 (.int .i64 (.ofNat 0)) fun v6 =>
pCond v6 (
pBuild [(.int .i64 (.ofNat 0)), (.int .i64 (.ofNat 0)), (.int .u64 (.ofNat 0)), (.int .u64 (.ofNat 0)), (.int .u64 (.ofNat 0)), (.bool false), (.int .i64 (.ofNat 0)), (.int .u64 (.ofNat 0)), (.bool false), (.int .i64 (.ofNat 0))] [] fun v7 =>
pStore h5 v0 v7 10 fun h8 =>
pLoadN h8 v0 10 fun v9 =>
some ((.tup [v9, (.bool false)]), h8)) (
pNil a0 fun v10 =>
pFieldA v10 11 fun v11 =>
pLoad1 h5 v11 fun v12 =>
pInt .eql v12 (.int .i64 (.ofNat 0)) fun v13 =>
pCond v13 (
pNil a0 fun v14 =>
pFieldA v14 9 fun v15 =>
pLoad1 h5 v15 fun v16 =>
pNil a0 fun v17 =>
pFieldA v17 10 fun v18 =>
pLoad1 h5 v18 fun v19 =>
pLenS v19 fun v20 =>
pIdxS v16 v20 1 fun v21 =>
pLoad1 h5 v21 fun v22 =>
pBuild [(.int .i64 (.ofNat 0)), (.int .i64 (.ofNat 0)), (.int .u64 (.ofNat 0)), (.int .u64 (.ofNat 0)), (.int .u64 (.ofNat 0)), (.bool false), (.int .i64 (.ofNat 0)), (.int .u64 (.ofNat 0)), (.bool false), (.int .i64 (.ofNat 0))] [(0, 1, (.int .i64 (.ofNat 3))), (1, 1, v22)] fun v23 =>
pStore h5 v0 v23 10 fun h24 =>
pLoadN h24 v0 10 fun v25 =>
some ((.tup [v25, (.bool true)]), h24)) (
pInt .eql v12 (.int .i64 (.ofNat 1)) fun v26 =>
pCond v26 (
pNil a0 fun v27 =>
pFieldA v27 13 fun v28 =>
pFieldA v28 0 fun v29 =>
pLoad1 h5 v29 fun v30 =>
pNil a0 fun v31 =>
pFieldA v31 5 fun v32 =>
pLoad1 h5 v32 fun v33 =>
pBuild [(.int .u64 (.ofNat 0)), (.bool false), (.int .i64 (.ofNat 0))] [(0, 1, v30), (1, 1, (.bool true)), (2, 1, v33)] fun v34 =>
pBox h5 38 (.agg [(.int .u64 (.ofNat 0)), (.bool false), (.int .i64 (.ofNat 0))]) fun v35 h36 =>
pStore h36 v35 v34 3 fun h37 =>
pNil a0 fun v38 =>
pFieldA v38 9 fun v39 =>
pLoad1 h37 v39 fun v40 =>
pNil a0 fun v41 =>
pFieldA v41 10 fun v42 =>
pLoad1 h37 v42 fun v43 =>
pLenS v43 fun v44 =>
pIdxS v40 v44 1 fun v45 =>
pLoad1 h37 v45 fun v46 =>
pNil a0 fun v47 =>
pFieldA v47 13 fun v48 =>
pLoadN h37 v48 3 fun v49 =>
pLoadN h37 v35 3 fun v50 =>
pBuild [(.int .i64 (.ofNat 0)), (.int .i64 (.ofNat 0)), (.int .u64 (.ofNat 0)), (.int .u64 (.ofNat 0)), (.int .u64 (.ofNat 0)), (.bool false), (.int .i64 (.ofNat 0)), (.int .u64 (.ofNat 0)), (.bool false), (.int .i64 (.ofNat 0))] [(0, 1, (.int .i64 (.ofNat 4))), (1, 1, v46), (4, 3, v49), (7, 3, v50)] fun v51 =>
pStore h37 v0 v51 10 fun h52 =>
pLoadN h52 v0 10 fun v53 =>
some ((.tup [v53, (.bool true)]), h52)) (
pInt .eql v12 (.int .i64 (.ofNat 2)) fun v54 =>
pCond v54 (
pBuild [(.int .i64 (.ofNat 0)), (.int .i64 (.ofNat 0)), (.int .u64 (.ofNat 0)), (.int .u64 (.ofNat 0)), (.int .u64 (.ofNat 0)), (.bool false), (.int .i64 (.ofNat 0)), (.int .u64 (.ofNat 0)), (.bool false), (.int .i64 (.ofNat 0))] [(0, 1, (.int .i64 (.ofNat 6)))] fun v55 =>
pStore h5 v0 v55 10 fun h56 =>
pLoadN h56 v0 10 fun v57 =>
some ((.tup [v57, (.bool true)]), h56)) (
pInt .eql v12 (.int .i64 (.ofNat 3)) fun v58 =>
pCond v58 (
pNil a0 fun v59 =>
pFieldA v59 16 fun v60 =>
pLoad1 h5 v60 fun v61 =>
pNil a0 fun v62 =>
pFieldA v62 16 fun v63 =>
pLoad1 h5 v63 fun v64 =>
pInt .add v64 (.int .u64 (.ofNat 1)) fun v65 =>
pBuild [(.int .i64 (.ofNat 0)), (.int .i64 (.ofNat 0)), (.int .u64 (.ofNat 0)), (.int .u64 (.ofNat 0)), (.int .u64 (.ofNat 0)), (.bool false), (.int .i64 (.ofNat 0)), (.int .u64 (.ofNat 0)), (.bool false), (.int .i64 (.ofNat 0))] [(0, 1, (.int .i64 (.ofNat 7))), (2, 1, v61), (3, 1, v65)] fun v66 =>
pStore h5 v0 v66 10 fun h67 =>
pLoadN h67 v0 10 fun v68 =>
some ((.tup [v68, (.bool true)]), h67)) (
pInt .eql v12 (.int .i64 (.ofNat 4)) fun v69 =>
pCond v69 (
pNil a0 fun v70 =>
pFieldA v70 7 fun v71 =>
pLoad1 h5 v71 fun v72 =>
pNil a0 fun v73 =>
pFieldA v73 12 fun v74 =>
pLoad1 h5 v74 fun v75 =>
pIdxS v72 v75 2 fun v76 =>
pFieldA v76 0 fun v77 =>
pLoad1 h5 v77 fun v78 =>
pBuild [(.int .i64 (.ofNat 0)), (.int .i64 (.ofNat 0)), (.int .u64 (.ofNat 0)), (.int .u64 (.ofNat 0)), (.int .u64 (.ofNat 0)), (.bool false), (.int .i64 (.ofNat 0)), (.int .u64 (.ofNat 0)), (.bool false), (.int .i64 (.ofNat 0))] [(0, 1, (.int .i64 (.ofNat 3))), (1, 1, v78)] fun v79 =>
pStore h5 v0 v79 10 fun h80 =>
pLoadN h80 v0 10 fun v81 =>
some ((.tup [v81, (.bool true)]), h80)) (
pInt .eql v12 (.int .i64 (.ofNat 5)) fun v82 =>
pCond v82 (
pNil a0 fun v83 =>
pFieldA v83 8 fun v84 =>
pLoad1 h5 v84 fun v85 =>
pNil a0 fun v86 =>
pFieldA v86 12 fun v87 =>
pLoad1 h5 v87 fun v88 =>
pIdxS v85 v88 2 fun v89 =>
pFieldA v89 0 fun v90 =>
pLoad1 h5 v90 fun v91 =>
pNil a0 fun v92 =>
pFieldA v92 8 fun v93 =>
pLoad1 h5 v93 fun v94 =>
pNil a0 fun v95 =>
pFieldA v95 12 fun v96 =>
pLoad1 h5 v96 fun v97 =>
pIdxS v94 v97 2 fun v98 =>
pFieldA v98 1 fun v99 =>
pLoad1 h5 v99 fun v100 =>
pBuild [(.int .i64 (.ofNat 0)), (.int .i64 (.ofNat 0)), (.int .u64 (.ofNat 0)), (.int .u64 (.ofNat 0)), (.int .u64 (.ofNat 0)), (.bool false), (.int .i64 (.ofNat 0)), (.int .u64 (.ofNat 0)), (.bool false), (.int .i64 (.ofNat 0))] [(0, 1, (.int .i64 (.ofNat 2))), (1, 1, v91), (3, 1, v100)] fun v101 =>
pStore h5 v0 v101 10 fun h102 =>
pLoadN h102 v0 10 fun v103 =>
some ((.tup [v103, (.bool true)]), h102)) (
pInt .eql v12 (.int .i64 (.ofNat 6)) fun v104 =>
pCond v104 (
pNil a0 fun v105 =>
pFieldA v105 9 fun v106 =>
pLoad1 h5 v106 fun v107 =>
pNil a0 fun v108 =>
pFieldA v108 12 fun v109 =>
pLoad1 h5 v109 fun v110 =>
pIdxS v107 v110 1 fun v111 =>
pLoad1 h5 v111 fun v112 =>
pNil a0 fun v113 =>
pFieldA v113 16 fun v114 =>
pLoad1 h5 v114 fun v115 =>
pInt .add v115 (.int .u64 (.ofNat 1)) fun v116 =>
pBuild [(.int .u64 (.ofNat 0)), (.bool false), (.int .i64 (.ofNat 0))] [(0, 1, v116)] fun v117 =>
pBuild [(.int .i64 (.ofNat 0)), (.int .i64 (.ofNat 0)), (.int .u64 (.ofNat 0)), (.int .u64 (.ofNat 0)), (.int .u64 (.ofNat 0)), (.bool false), (.int .i64 (.ofNat 0)), (.int .u64 (.ofNat 0)), (.bool false), (.int .i64 (.ofNat 0))] [(0, 1, (.int .i64 (.ofNat 5))), (1, 1, v112), (7, 3, v117)] fun v118 =>
pStore h5 v0 v118 10 fun h119 =>
pLoadN h119 v0 10 fun v120 =>
some ((.tup [v120, (.bool true)]), h119)) (
pNil a0 fun v121 =>
pFieldA v121 9 fun v122 =>
pLoad1 h5 v122 fun v123 =>
pNil a0 fun v124 =>
pFieldA v124 12 fun v125 =>
pLoad1 h5 v125 fun v126 =>
pIdxS v123 v126 1 fun v127 =>
pLoad1 h5 v127 fun v128 =>
pNil a0 fun v129 =>
pFieldA v129 10 fun v130 =>
pLoad1 h5 v130 fun v131 =>
pNil a0 fun v132 =>
pFieldA v132 12 fun v133 =>
pLoad1 h5 v133 fun v134 =>
pIdxS v131 v134 3 fun v135 =>
pLoadN h5 v135 3 fun v136 =>
pBuild [(.int .i64 (.ofNat 0)), (.int .i64 (.ofNat 0)), (.int .u64 (.ofNat 0)), (.int .u64 (.ofNat 0)), (.int .u64 (.ofNat 0)), (.bool false), (.int .i64 (.ofNat 0)), (.int .u64 (.ofNat 0)), (.bool false), (.int .i64 (.ofNat 0))] [(0, 1, (.int .i64 (.ofNat 5))), (1, 1, v128), (7, 3, v136)] fun v137 =>
pStore h5 v0 v137 10 fun h138 =>
pLoadN h138 v0 10 fun v139 =>
some ((.tup [v139, (.bool true)]), h138)))))))))
theorem S347_eq (c : CV) (a0 : AV) (h : AH) : enterK Tryz.prog NN P347 c 347 [a0] h = S347 c a0 h := by kernel_rfl
def W347 (c : CV) (l : List AV) (h : AH) : R := match l with | [a0] => S347 c a0 h | _ => none
theorem W347_ok : WOk Tryz.prog 347 W347 := by
  intro c l h r e
  unfold W347 at e
  split at e
  · exact ⟨P347, by rw [S347_eq]; exact e⟩
  · cases e
/- (*quietus/commit.Commit).Tell -/
def P348 : Pl := (.n none .z (.n none .z (.n none .z (.n (some []) (.n (some [13, 12, 3, 0]) .z (.n none .z (.n (some [19, 12, 3, 0]) .z .z))) .z))))
def S348 (c : CV) (a0 a1 : AV) (h : AH) : R :=
pBox h 47 a1 fun v0 h1 =>
pNil a0 fun v2 =>
pFieldA v2 0 fun v3 =>
pLoadN h1 v0 6 fun v4 =>
pCall c (.fn 339 [] []) [v3, v4] h1 fun v5 h6 =>
pCond v5 (
some ((.tup []), h6)) (
pNil a0 fun v7 =>
pFieldA v7 11 fun v8 =>
pLoad1 h6 v8 fun v9 =>
joinC (α := Unit → AH → List Nat → R) (fun _ h11 d12 =>
pLeave d12 h11 fun h14 =>
some ((.tup []), h14)) fun j13 =>
joinC (α := AV × AV × AV × AV × Unit → AH → List Nat → R) (fun s15 h16 d17 =>
pCond s15.1 (
pLoadN h16 s15.2.2.1 6 fun v19 =>
pCall c (.fn 350 [] []) [s15.2.2.2.1, v19] h16 fun _ h21 =>
j13 (()) h21 d17) (
joinC (α := AV × AV × AV × AV × Unit → AH → List Nat → R) (fun s22 h23 d24 =>
pCond s22.1 (
pLoadN h23 s22.2.2.1 6 fun v26 =>
pCall c (.fn 351 [] []) [s22.2.2.2.1, v26] h23 fun _ h28 =>
j13 (()) h28 d24) (
pInt .eql s22.2.1 (.int .i64 (.ofNat 4)) fun v29 =>
pCond v29 (
pFieldA s22.2.2.1 1 fun v30 =>
pLoadN h23 v30 3 fun v31 =>
pCall c (.fn 352 [] []) [s22.2.2.2.1, v31] h23 fun _ h33 =>
j13 (()) h33 d24) (
pInt .eql s22.2.1 (.int .i64 (.ofNat 5)) fun v34 =>
pCond v34 (
pNil s22.2.2.2.1 fun v35 =>
pFieldA v35 12 fun v36 =>
pLoad1 h23 v36 fun v37 =>
pInt .add v37 (.int .i64 (.ofNat 1)) fun v38 =>
pNil s22.2.2.2.1 fun v39 =>
pFieldA v39 12 fun v40 =>
pStore h23 v40 v38 1 fun h41 =>
pCall c (.fn 353 [] []) [s22.2.2.2.1] h41 fun _ h43 =>
j13 (()) h43 d24) (
pInt .eql s22.2.1 (.int .i64 (.ofNat 6)) fun v44 =>
pCond v44 (
pNil s22.2.2.2.1 fun v45 =>
pFieldA v45 12 fun v46 =>
pLoad1 h23 v46 fun v47 =>
pInt .add v47 (.int .i64 (.ofNat 1)) fun v48 =>
pNil s22.2.2.2.1 fun v49 =>
pFieldA v49 12 fun v50 =>
pStore h23 v50 v48 1 fun h51 =>
pCall c (.fn 354 [] []) [s22.2.2.2.1] h51 fun _ h53 =>
j13 (()) h53 d24) (
pInt .eql s22.2.1 (.int .i64 (.ofNat 7)) fun v54 =>
pCond v54 (
pNil s22.2.2.2.1 fun v55 =>
pFieldA v55 12 fun v56 =>
pLoad1 h23 v56 fun v57 =>
pInt .add v57 (.int .i64 (.ofNat 1)) fun v58 =>
pNil s22.2.2.2.1 fun v59 =>
pFieldA v59 12 fun v60 =>
pStore h23 v60 v58 1 fun h61 =>
pCall c (.fn 355 [] []) [s22.2.2.2.1] h61 fun _ h63 =>
j13 (()) h63 d24) (
j13 (()) h23 d24)))))) fun j25 =>
pInt .eql s15.2.1 (.int .i64 (.ofNat 2)) fun v64 =>
pCond v64 (
j25 (v64, s15.2.1, s15.2.2.1, s15.2.2.2.1, ()) h16 d17) (
pInt .eql s15.2.1 (.int .i64 (.ofNat 3)) fun v65 =>
j25 (v65, s15.2.1, s15.2.2.1, s15.2.2.2.1, ()) h16 d17))) fun j18 =>
pInt .eql v9 (.int .i64 (.ofNat 0)) fun v66 =>
pCond v66 (
j18 (v66, v9, v0, a0, ()) h6 []) (
pInt .eql v9 (.int .i64 (.ofNat 1)) fun v67 =>
j18 (v67, v9, v0, a0, ()) h6 []))
theorem S348_eq (c : CV) (a0 a1 : AV) (h : AH) : enterK Tryz.prog NN P348 c 348 [a0, a1] h = S348 c a0 a1 h := by kernel_rfl
def W348 (c : CV) (l : List AV) (h : AH) : R := match l with | [a0, a1] => S348 c a0 a1 h | _ => none
theorem W348_ok : WOk Tryz.prog 348 W348 := by
  intro c l h r e
  unfold W348 at e
  split at e
  · exact ⟨P348, by rw [S348_eq]; exact e⟩
  · cases e
/- (*quietus/commit.Commit).begin -/
def P349 : Pl := .z
def S349 (c : CV) (a0 : AV) (h : AH) : R :=
pNil a0 fun v0 =>
pFieldA v0 17 fun v1 =>
pStore h v1 (.bool true) 1 fun h2 =>
pNil a0 fun v3 =>
pFieldA v3 12 fun v4 =>
pStore h2 v4 (.int .i64 (.ofNat 0)) 1 fun h5 =>
pNil a0 fun v6 =>
pFieldA v6 11 fun v7 =>
pStore h5 v7 (.int .i64 (.ofNat 5)) 1 fun h8 =>
pCall c (.fn 353 [] []) [a0] h8 fun _ h10 =>
some ((.tup []), h10)
theorem S349_eq (c : CV) (a0 : AV) (h : AH) : enterK Tryz.prog NN P349 c 349 [a0] h = S349 c a0 h := by kernel_rfl
def W349 (c : CV) (l : List AV) (h : AH) : R := match l with | [a0] => S349 c a0 h | _ => none
theorem W349_ok : WOk Tryz.prog 349 W349 := by
  intro c l h r e
  unfold W349 at e
  split at e
  · exact ⟨P349, by rw [S349_eq]; exact e⟩
  · cases e
/- (*quietus/commit.Commit).take -/
def P350 : Pl := (.n none .z (.n (some []) (.n none (.r [[16, 13, 3, 0]]) .z) .z))
def S350 (c : CV) (a0 a1 : AV) (h : AH) : R :=
pBox h 47 a1 fun v0 h1 =>
joinC (α := Unit → AH → List Nat → R) (fun _ h3 d4 =>
pLeave d4 h3 fun h6 =>
some ((.tup []), h6)) fun j5 =>
pNil a0 fun v7 =>
pFieldA v7 11 fun v8 =>
pLoad1 h1 v8 fun v9 =>
pInt .eql v9 (.int .i64 (.ofNat 0)) fun v10 =>
joinC (α := AV × AV × AV × AV × Unit → AH → R) (fun s11 h12 =>
pPick s11.2.1 s11.1 (.bool false) fun v14 =>
pCond v14 (
pFieldA s11.2.2.1 1 fun v15 =>
pLoadN h12 v15 3 fun v16 =>
pCall c (.fn 356 [] []) [s11.2.2.2.1, v16] h12 fun _ h18 =>
j5 (()) h18 []) (
pNil s11.2.2.2.1 fun v19 =>
pFieldA v19 11 fun v20 =>
pLoad1 h12 v20 fun v21 =>
pInt .eql v21 (.int .i64 (.ofNat 0)) fun v22 =>
pCond v22 (
pFieldA s11.2.2.1 1 fun v23 =>
pLoadN h12 v23 3 fun v24 =>
pNil s11.2.2.2.1 fun v25 =>
pFieldA v25 13 fun v26 =>
pStore h12 v26 v24 3 fun h27 =>
pNil s11.2.2.2.1 fun v28 =>
pFieldA v28 11 fun v29 =>
pStore h27 v29 (.int .i64 (.ofNat 1)) 1 fun h30 =>
j5 (()) h30 []) (
pFieldA s11.2.2.1 4 fun v31 =>
pLoad1 h12 v31 fun v32 =>
pCond v32 (
pNil s11.2.2.2.1 fun v33 =>
pFieldA v33 10 fun v34 =>
pLoad1 h12 v34 fun v35 =>
pNil s11.2.2.2.1 fun v36 =>
pFieldA v36 13 fun v37 =>
pLoadN h12 v37 3 fun v38 =>
pBuildS h12 38 [(.int .u64 (.ofNat 0)), (.bool false), (.int .i64 (.ofNat 0))] 1 [(0, 3, v38)] fun v39 h40 =>
pAppend h40 38 3 v35 v39 fun v41 h42 =>
pNil s11.2.2.2.1 fun v43 =>
pFieldA v43 10 fun v44 =>
pStore h42 v44 v41 1 fun h45 =>
pCall c (.fn 109 [] []) [s11.2.2.2.1] h45 fun _ h47 =>
j5 (()) h47 []) (
pNil s11.2.2.2.1 fun v48 =>
pFieldA v48 11 fun v49 =>
pStore h12 v49 (.int .i64 (.ofNat 0)) 1 fun h50 =>
j5 (()) h50 [])))) fun j13 =>
pWant v10 true (
pFieldA v0 1 fun v51 =>
pFieldA v51 1 fun v52 =>
pLoad1 h1 v52 fun v53 =>
j13 (v53, v10, v0, a0, ()) h1) (
j13 (.undef, v10, v0, a0, ()) h1)
theorem S350_eq (c : CV) (a0 a1 : AV) (h : AH) : enterK Tryz.prog NN P350 c 350 [a0, a1] h = S350 c a0 a1 h := by kernel_rfl
def W350 (c : CV) (l : List AV) (h : AH) : R := match l with | [a0, a1] => S350 c a0 a1 h | _ => none
theorem W350_ok : WOk Tryz.prog 350 W350 := by
  intro c l h r e
  unfold W350 at e
  split at e
  · exact ⟨P350, by rw [S350_eq]; exact e⟩
  · cases e
/- (*quietus/commit.Commit).raise -/
def P351 : Pl := (.n none .z (.n (some []) (.n none (.r [[15, 12, 3, 0]]) .z) .z))
def S351 (c : CV) (a0 a1 : AV) (h : AH) : R :=
pBox h 47 a1 fun v0 h1 =>
joinC (α := Unit → AH → List Nat → R) (fun _ h3 d4 =>
pLeave d4 h3 fun h6 =>
some ((.tup []), h6)) fun j5 =>
pNil a0 fun v7 =>
pFieldA v7 11 fun v8 =>
pLoad1 h1 v8 fun v9 =>
pInt .eql v9 (.int .i64 (.ofNat 2)) fun v10 =>
joinC (α := AV × AV × AV × AV × Unit → AH → R) (fun s11 h12 =>
pPick s11.2.1 s11.1 (.bool false) fun v14 =>
pCond v14 (
pCall c (.fn 357 [] []) [s11.2.2.2.1, (.int .i64 (.ofNat 4)), (.int .i64 (.ofNat 7)), (.int .i64 (.negSucc 0))] h12 fun _ h16 =>
j5 (()) h16 []) (
pNil s11.2.2.2.1 fun v17 =>
pFieldA v17 11 fun v18 =>
pLoad1 h12 v18 fun v19 =>
pInt .eql v19 (.int .i64 (.ofNat 2)) fun v20 =>
pCond v20 (
pFieldA s11.2.2.1 0 fun v21 =>
pLoad1 h12 v21 fun v22 =>
pNil s11.2.2.2.1 fun v23 =>
pFieldA v23 16 fun v24 =>
pStore h12 v24 v22 1 fun h25 =>
pNil s11.2.2.2.1 fun v26 =>
pFieldA v26 11 fun v27 =>
pStore h25 v27 (.int .i64 (.ofNat 3)) 1 fun h28 =>
j5 (()) h28 []) (
pFieldA s11.2.2.1 4 fun v29 =>
pLoad1 h12 v29 fun v30 =>
pUn .not v30 fun v31 =>
pCond v31 (
pNil s11.2.2.2.1 fun v32 =>
pFieldA v32 11 fun v33 =>
pStore h12 v33 (.int .i64 (.ofNat 2)) 1 fun h34 =>
j5 (()) h34 []) (
pNil s11.2.2.2.1 fun v35 =>
pFieldA v35 16 fun v36 =>
pLoad1 h12 v36 fun v37 =>
pNil s11.2.2.2.1 fun v38 =>
pFieldA v38 6 fun v39 =>
pLoad1 h12 v39 fun v40 =>
pInt .eql v37 v40 fun v41 =>
pCond v41 (
pCall c (.fn 349 [] []) [s11.2.2.2.1] h12 fun _ h43 =>
j5 (()) h43 []) (
pCall c (.fn 358 [] []) [s11.2.2.2.1] h12 fun _ h45 =>
j5 (()) h45 []))))) fun j13 =>
pWant v10 true (
pFieldA v0 0 fun v46 =>
pLoad1 h1 v46 fun v47 =>
pInt .geq v47 (.int .u64 (.ofNat 4611686018427387903)) fun v48 =>
j13 (v48, v10, v0, a0, ()) h1) (
j13 (.undef, v10, v0, a0, ()) h1)
theorem S351_eq (c : CV) (a0 a1 : AV) (h : AH) : enterK Tryz.prog NN P351 c 351 [a0, a1] h = S351 c a0 a1 h := by kernel_rfl
def W351 (c : CV) (l : List AV) (h : AH) : R := match l with | [a0, a1] => S351 c a0 a1 h | _ => none
theorem W351_ok : WOk Tryz.prog 351 W351 := by
  intro c l h r e
  unfold W351 at e
  split at e
  · exact ⟨P351, by rw [S351_eq]; exact e⟩
  · cases e
/- (*quietus/commit.Commit).proved -/
def P352 : Pl := (.n none .z (.n (some []) .z .z))
def S352 (c : CV) (a0 a1 : AV) (h : AH) : R :=
pBox h 38 a1 fun v0 h1 =>
joinC (α := Unit → AH → List Nat → R) (fun _ h3 d4 =>
pLeave d4 h3 fun h6 =>
some ((.tup []), h6)) fun j5 =>
pFieldA v0 1 fun v7 =>
pLoad1 h1 v7 fun v8 =>
pCond v8 (
pLoadN h1 v0 3 fun v9 =>
pCall c (.fn 356 [] []) [a0, v9] h1 fun _ h11 =>
j5 (()) h11 []) (
pFieldA v0 0 fun v12 =>
pLoad1 h1 v12 fun v13 =>
pNil a0 fun v14 =>
pFieldA v14 7 fun v15 =>
pLoad1 h1 v15 fun v16 =>
pNil a0 fun v17 =>
pFieldA v17 12 fun v18 =>
pLoad1 h1 v18 fun v19 =>
pIdxS v16 v19 2 fun v20 =>
pFieldA v20 1 fun v21 =>
pLoad1 h1 v21 fun v22 =>
pInt .neq v13 v22 fun v23 =>
pCond v23 (
pCall c (.fn 357 [] []) [a0, (.int .i64 (.ofNat 5)), (.int .i64 (.ofNat 0)), (.int .i64 (.negSucc 0))] h1 fun _ h25 =>
j5 (()) h25 []) (
pNil a0 fun v26 =>
pFieldA v26 12 fun v27 =>
pLoad1 h1 v27 fun v28 =>
pInt .add v28 (.int .i64 (.ofNat 1)) fun v29 =>
pNil a0 fun v30 =>
pFieldA v30 12 fun v31 =>
pStore h1 v31 v29 1 fun h32 =>
pCall c (.fn 358 [] []) [a0] h32 fun _ h34 =>
j5 (()) h34 []))
theorem S352_eq (c : CV) (a0 a1 : AV) (h : AH) : enterK Tryz.prog NN P352 c 352 [a0, a1] h = S352 c a0 a1 h := by kernel_rfl
def W352 (c : CV) (l : List AV) (h : AH) : R := match l with | [a0, a1] => S352 c a0 a1 h | _ => none
theorem W352_ok : WOk Tryz.prog 352 W352 := by
  intro c l h r e
  unfold W352 at e
  split at e
  · exact ⟨P352, by rw [S352_eq]; exact e⟩
  · cases e
/- (*quietus/commit.Commit).write -/
def P353 : Pl := .z
def S353 (c : CV) (a0 : AV) (h : AH) : R :=
pNil a0 fun v0 =>
pFieldA v0 12 fun v1 =>
pLoad1 h v1 fun v2 =>
pNil a0 fun v3 =>
pFieldA v3 8 fun v4 =>
pLoad1 h v4 fun v5 =>
pLenS v5 fun v6 =>
pInt .eql v2 v6 fun v7 =>
pCond v7 (
pNil a0 fun v8 =>
pFieldA v8 12 fun v9 =>
pStore h v9 (.int .i64 (.ofNat 0)) 1 fun h10 =>
pNil a0 fun v11 =>
pFieldA v11 11 fun v12 =>
pStore h10 v12 (.int .i64 (.ofNat 6)) 1 fun h13 =>
pCall c (.fn 354 [] []) [a0] h13 fun _ h15 =>
some ((.tup []), h15)) (
some ((.tup []), h))
theorem S353_eq (c : CV) (a0 : AV) (h : AH) : enterK Tryz.prog NN P353 c 353 [a0] h = S353 c a0 h := by kernel_rfl
def W353 (c : CV) (l : List AV) (h : AH) : R := match l with | [a0] => S353 c a0 h | _ => none
theorem W353_ok : WOk Tryz.prog 353 W353 := by
  intro c l h r e
  unfold W353 at e
  split at e
  · exact ⟨P353, by rw [S353_eq]; exact e⟩
  · cases e
/- (*quietus/commit.Commit).give -/
def P354 : Pl := .z
def S354 (c : CV) (a0 : AV) (h : AH) : R :=
pNil a0 fun v0 =>
pFieldA v0 12 fun v1 =>
pLoad1 h v1 fun v2 =>
pNil a0 fun v3 =>
pFieldA v3 9 fun v4 =>
pLoad1 h v4 fun v5 =>
pLenS v5 fun v6 =>
pInt .eql v2 v6 fun v7 =>
pCond v7 (
pNil a0 fun v8 =>
pFieldA v8 0 fun v9 =>
pCall c (.fn 340 [] []) [v9, (.int .i64 (.ofNat 2)), (.int .i64 (.ofNat 0)), (.int .i64 (.negSucc 0))] h fun _ h11 =>
some ((.tup []), h11)) (
some ((.tup []), h))
theorem S354_eq (c : CV) (a0 : AV) (h : AH) : enterK Tryz.prog NN P354 c 354 [a0] h = S354 c a0 h := by kernel_rfl
def W354 (c : CV) (l : List AV) (h : AH) : R := match l with | [a0] => S354 c a0 h | _ => none
theorem W354_ok : WOk Tryz.prog 354 W354 := by
  intro c l h r e
  unfold W354 at e
  split at e
  · exact ⟨P354, by rw [S354_eq]; exact e⟩
  · cases e
/- (*quietus/commit.Commit).leave -/
def P355 : Pl := .z
def S355 (c : CV) (a0 : AV) (h : AH) : R :=
pNil a0 fun v0 =>
pFieldA v0 12 fun v1 =>
pLoad1 h v1 fun v2 =>
pNil a0 fun v3 =>
pFieldA v3 10 fun v4 =>
pLoad1 h v4 fun v5 =>
pLenS v5 fun v6 =>
pInt .eql v2 v6 fun v7 =>
pCond v7 (
pNil a0 fun v8 =>
pFieldA v8 0 fun v9 =>
pNil a0 fun v10 =>
pFieldA v10 18 fun v11 =>
pLoad1 h v11 fun v12 =>
pNil a0 fun v13 =>
pFieldA v13 20 fun v14 =>
pLoad1 h v14 fun v15 =>
pNil a0 fun v16 =>
pFieldA v16 19 fun v17 =>
pLoad1 h v17 fun v18 =>
pCall c (.fn 340 [] []) [v9, v12, v15, v18] h fun _ h20 =>
some ((.tup []), h20)) (
some ((.tup []), h))
theorem S355_eq (c : CV) (a0 : AV) (h : AH) : enterK Tryz.prog NN P355 c 355 [a0] h = S355 c a0 h := by kernel_rfl
def W355 (c : CV) (l : List AV) (h : AH) : R := match l with | [a0] => S355 c a0 h | _ => none
theorem W355_ok : WOk Tryz.prog 355 W355 := by
  intro c l h r e
  unfold W355 at e
  split at e
  · exact ⟨P355, by rw [S355_eq]; exact e⟩
  · cases e
/- (*quietus/commit.Commit).held -/
def P356 : Pl := .z
def S356 (c : CV) (a0 a1 : AV) (h : AH) : R :=
pBox h 38 a1 fun v0 h1 =>
pNil a0 fun v2 =>
pFieldA v2 0 fun v3 =>
pLoadN h1 v0 3 fun v4 =>
pCall c (.fn 342 [] []) [v3, v4] h1 fun v5 h6 =>
pUn .not v5 fun v7 =>
pCond v7 (
pFieldA v0 2 fun v8 =>
pLoad1 h6 v8 fun v9 =>
pCall c (.fn 357 [] []) [a0, (.int .i64 (.ofNat 5)), (.int .i64 (.ofNat 0)), v9] h6 fun _ h11 =>
some ((.tup []), h11)) (
some ((.tup []), h6))
theorem S356_eq (c : CV) (a0 a1 : AV) (h : AH) : enterK Tryz.prog NN P356 c 356 [a0, a1] h = S356 c a0 a1 h := by kernel_rfl
def W356 (c : CV) (l : List AV) (h : AH) : R := match l with | [a0, a1] => S356 c a0 a1 h | _ => none
theorem W356_ok : WOk Tryz.prog 356 W356 := by
  intro c l h r e
  unfold W356 at e
  split at e
  · exact ⟨P356, by rw [S356_eq]; exact e⟩
  · cases e
/- (*quietus/commit.Commit).stop -/
def P357 : Pl := .z
def S357 (c : CV) (a0 a1 a2 a3 : AV) (h : AH) : R :=
pNil a0 fun v0 =>
pFieldA v0 18 fun v1 =>
pStore h v1 a1 1 fun h2 =>
pNil a0 fun v3 =>
pFieldA v3 20 fun v4 =>
pStore h2 v4 a2 1 fun h5 =>
pNil a0 fun v6 =>
pFieldA v6 19 fun v7 =>
pStore h5 v7 a3 1 fun h8 =>
pNil a0 fun v9 =>
pFieldA v9 12 fun v10 =>
pStore h8 v10 (.int .i64 (.ofNat 0)) 1 fun h11 =>
pNil a0 fun v12 =>
pFieldA v12 11 fun v13 =>
pStore h11 v13 (.int .i64 (.ofNat 7)) 1 fun h14 =>
pCall c (.fn 355 [] []) [a0] h14 fun _ h16 =>
some ((.tup []), h16)
theorem S357_eq (c : CV) (a0 a1 a2 a3 : AV) (h : AH) : enterK Tryz.prog NN P357 c 357 [a0, a1, a2, a3] h = S357 c a0 a1 a2 a3 h := by kernel_rfl
def W357 (c : CV) (l : List AV) (h : AH) : R := match l with | [a0, a1, a2, a3] => S357 c a0 a1 a2 a3 h | _ => none
theorem W357_ok : WOk Tryz.prog 357 W357 := by
  intro c l h r e
  unfold W357 at e
  split at e
  · exact ⟨P357, by rw [S357_eq]; exact e⟩
  · cases e
/- (*quietus/commit.Commit).prove -/
def P358 : Pl := (.n none (.n none .z (.n none (.n (some [0]) .z .z) .z)) .z)
def S358 (c : CV) (a0 : AV) (h : AH) : R :=
pNil a0 fun v0 =>
pFieldA v0 11 fun v1 =>
pStore h v1 (.int .i64 (.ofNat 4)) 1 fun h2 =>
loopC (σ := AV × Unit) NN (fun i6 s3 h4 d5 =>
pNil s3.1 fun v7 =>
pFieldA v7 12 fun v8 =>
pLoad1 h4 v8 fun v9 =>
pNil s3.1 fun v10 =>
pFieldA v10 7 fun v11 =>
pLoad1 h4 v11 fun v12 =>
pLenS v12 fun v13 =>
pInt .lss v9 v13 fun v14 =>
pCond v14 (
pNil s3.1 fun v15 =>
pFieldA v15 9 fun v16 =>
pLoad1 h4 v16 fun v17 =>
pNil s3.1 fun v18 =>
pFieldA v18 7 fun v19 =>
pLoad1 h4 v19 fun v20 =>
pNil s3.1 fun v21 =>
pFieldA v21 12 fun v22 =>
pLoad1 h4 v22 fun v23 =>
pIdxS v20 v23 2 fun v24 =>
pFieldA v24 0 fun v25 =>
pLoad1 h4 v25 fun v26 =>
pCall c (.fn 359 [] []) [v17, v26] h4 fun v27 h28 =>
pExtract v27 0 fun v29 =>
pExtract v27 1 fun v30 =>
pUn .not v30 fun v31 =>
pCond v31 (
pLeave d5 h28 fun h32 =>
some ((.tup []), h32)) (
pNil s3.1 fun v33 =>
pFieldA v33 10 fun v34 =>
pLoad1 h28 v34 fun v35 =>
pIdxS v35 v29 3 fun v36 =>
pFieldA v36 0 fun v37 =>
pLoad1 h28 v37 fun v38 =>
pNil s3.1 fun v39 =>
pFieldA v39 7 fun v40 =>
pLoad1 h28 v40 fun v41 =>
pNil s3.1 fun v42 =>
pFieldA v42 12 fun v43 =>
pLoad1 h28 v43 fun v44 =>
pIdxS v41 v44 2 fun v45 =>
pFieldA v45 1 fun v46 =>
pLoad1 h28 v46 fun v47 =>
pInt .neq v38 v47 fun v48 =>
pCond v48 (
pCall c (.fn 357 [] []) [s3.1, (.int .i64 (.ofNat 5)), (.int .i64 (.ofNat 0)), (.int .i64 (.negSucc 0))] h28 fun _ h50 =>
pLeave d5 h50 fun h51 =>
some ((.tup []), h51)) (
pNil s3.1 fun v52 =>
pFieldA v52 12 fun v53 =>
pLoad1 h28 v53 fun v54 =>
pInt .add v54 (.int .i64 (.ofNat 1)) fun v55 =>
pNil s3.1 fun v56 =>
pFieldA v56 12 fun v57 =>
pStore h28 v57 v55 1 fun h58 =>
i6 (s3.1, ()) h58 d5))) (
pCall c (.fn 349 [] []) [s3.1] h4 fun _ h60 =>
pLeave d5 h60 fun h61 =>
some ((.tup []), h61))) (a0, ()) h2 []
theorem S358_eq (c : CV) (a0 : AV) (h : AH) : enterK Tryz.prog NN P358 c 358 [a0] h = S358 c a0 h := by kernel_rfl
def W358 (c : CV) (l : List AV) (h : AH) : R := match l with | [a0] => S358 c a0 h | _ => none
theorem W358_ok : WOk Tryz.prog 358 W358 := by
  intro c l h r e
  unfold W358 at e
  split at e
  · exact ⟨P358, by rw [S358_eq]; exact e⟩
  · cases e
/- slices.BinarySearch[[]int,int] -/
def P359 : Pl := (.n none .z (.n none .z (.n none .z (.n none (.n none (.n (some [8, 7, 6, 1, 0]) (.n none .z (.n (some [8, 7, 6, 1, 0]) .z .z)) .z) .z) (.n none (.r [[42, 35, 31, 7, 1, 0], [48, 42, 35, 31, 1], [50, 48, 42, 35, 31], [51, 42, 35, 31], [52, 35, 31]]) .z)))))
def S359 (c : CV) (a0 a1 : AV) (h : AH) : R :=
pLenS a0 fun v0 =>
loopC (σ := AV × AV × AV × AV × AV × Unit) NN (fun i4 s1 h2 d3 =>
pInt .lss s1.2.1 s1.1 fun v5 =>
pCond v5 (
joinC (α := AV × AV × AV × AV × AV × Unit → AH → List Nat → R) (fun s6 h7 d8 =>
i4 (s6.1, s6.2.1, s6.2.2.1, s6.2.2.2.1, s6.2.2.2.2.1, ()) h7 d8) fun j9 =>
pInt .add s1.2.1 s1.1 fun v10 =>
pConvI .u64 v10 fun v11 =>
pShift .shr v11 (.int .u64 (.ofNat 1)) fun v12 =>
pConvI .i64 v12 fun v13 =>
pIdxS s1.2.2.2.2.1 v13 1 fun v14 =>
pLoad1 h2 v14 fun v15 =>
pCall c (.fn 214 [] []) [v15, s1.2.2.2.1] h2 fun v16 h17 =>
pCond v16 (
pInt .add v13 (.int .i64 (.ofNat 1)) fun v18 =>
j9 (s1.1, v18, s1.2.2.1, s1.2.2.2.1, s1.2.2.2.2.1, ()) h17 d3) (
j9 (v13, s1.2.1, s1.2.2.1, s1.2.2.2.1, s1.2.2.2.2.1, ()) h17 d3)) (
pInt .lss s1.2.1 s1.2.2.1 fun v19 =>
joinC (α := AV × AV × AV × AV × AV × AV × Unit → AH → R) (fun s20 h21 =>
joinC (α := AV × AV × AV × AV × AV × Unit → AH → R) (fun s23 h24 =>
joinC (α := AV × AV × AV × AV × AV × Unit → AH → R) (fun s26 h27 =>
joinC (α := AV × AV × AV × AV × Unit → AH → R) (fun s29 h30 =>
joinC (α := AV × AV × AV × Unit → AH → R) (fun s32 h33 =>
pPick s32.2.1 s32.1 (.bool false) fun v35 =>
pLeave d3 h33 fun h36 =>
some ((.tup [s32.2.2.1, v35]), h36)) fun j34 =>
pWant s29.2.2.1 true (
pPick s29.2.1 (.bool true) s29.1 fun v37 =>
j34 (v37, s29.2.2.1, s29.2.2.2.1, ()) h30) (
j34 (.undef, s29.2.2.1, s29.2.2.2.1, ()) h30)) fun j31 =>
pWant s26.2.2.1 false (
pPick s26.2.1 s26.1 (.bool false) fun v38 =>
j31 (v38, s26.2.2.1, s26.2.2.2.1, s26.2.2.2.2.1, ()) h27) (
j31 (.undef, s26.2.2.1, s26.2.2.2.1, s26.2.2.2.2.1, ()) h27)) fun j28 =>
pWant s23.1 true (
pCall c (.fn 360 [] []) [s23.2.2.2.2.1] h24 fun v39 h40 =>
j28 (v39, s23.1, s23.2.1, s23.2.2.1, s23.2.2.2.1, ()) h40) (
j28 (.undef, s23.1, s23.2.1, s23.2.2.1, s23.2.2.2.1, ()) h24)) fun j25 =>
pWant s20.1 false (
pIdxS s20.2.2.2.2.2.1 s20.2.2.2.1 1 fun v41 =>
pLoad1 h21 v41 fun v42 =>
pCall c (.fn 360 [] []) [v42] h21 fun v43 h44 =>
j25 (v43, s20.1, s20.2.1, s20.2.2.1, s20.2.2.2.2.1, ()) h44) (
j25 (.undef, s20.1, s20.2.1, s20.2.2.1, s20.2.2.2.2.1, ()) h21)) fun j22 =>
pWant v19 true (
pIdxS s1.2.2.2.2.1 s1.2.1 1 fun v45 =>
pLoad1 h2 v45 fun v46 =>
pInt .eql v46 s1.2.2.2.1 fun v47 =>
j22 (v47, v19, s1.2.1, s1.2.1, s1.2.2.2.1, s1.2.2.2.2.1, ()) h2) (
j22 (.undef, v19, s1.2.1, s1.2.1, s1.2.2.2.1, s1.2.2.2.2.1, ()) h2))) (v0, (.int .i64 (.ofNat 0)), v0, a1, a0, ()) h []
theorem S359_eq (c : CV) (a0 a1 : AV) (h : AH) : enterK Tryz.prog NN P359 c 359 [a0, a1] h = S359 c a0 a1 h := by kernel_rfl
def W359 (c : CV) (l : List AV) (h : AH) : R := match l with | [a0, a1] => S359 c a0 a1 h | _ => none
theorem W359_ok : WOk Tryz.prog 359 W359 := by
  intro c l h r e
  unfold W359 at e
  split at e
  · exact ⟨P359, by rw [S359_eq]; exact e⟩
  · cases e
/- slices.isNaN[int] -/
def P360 : Pl := .z
def S360 (_ : CV) (a0 : AV) (h : AH) : R :=
pInt .neq a0 a0 fun v0 =>
some (v0, h)
theorem S360_eq (c : CV) (a0 : AV) (h : AH) : enterK Tryz.prog NN P360 c 360 [a0] h = S360 c a0 h := by kernel_rfl
def W360 (c : CV) (l : List AV) (h : AH) : R := match l with | [a0] => S360 c a0 h | _ => none
theorem W360_ok : WOk Tryz.prog 360 W360 := by
  intro c l h r e
  unfold W360 at e
  split at e
  · exact ⟨P360, by rw [S360_eq]; exact e⟩
  · cases e
/- (*quietus/levels.Levels).Cells: a round -/
def Q0 : Pl := (.n none .z .z)
def B0 (c : CV) (l : Nat) (v0 _ a1 : AV) (h : AH) : R :=
pBegin h l fun h100 =>
pCall c (.fn 131 [] []) [(.int .i64 (.ofNat 96))] h100 fun v101 h102 =>
pNil a1 fun v103 =>
pFieldA v103 0 fun v104 =>
pLoad1 h102 v104 fun v105 =>
pCall c (.fn 133 [] []) [v105] h102 fun v106 h107 =>
pCall c (.fn 132 [] []) [v101, v106] h107 fun _ h109 =>
pLoad1 h109 v0 fun v110 =>
pCall c (.fn 132 [] []) [v101, v110] h109 fun _ h112 =>
pCall c (.fn 133 [] []) [v101] h112 fun v113 h114 =>
pStore h114 v0 v113 1 fun h115 =>
pEndRound h115 l none
theorem B0_eq (c : CV) (l : Nat) (v0 a0 a1 : AV) (h : AH) : roundK Tryz.prog NN Q0 c 106 [1, 1, 0, 1, 0] [3] l [v0] [a0, a1] h = B0 c l v0 a0 a1 h := by kernel_rfl
def V0 (c : CV) (l : Nat) (x y : List AV) (h : AH) : R := match x, y with | [v0], [a0, a1] => B0 c l v0 a0 a1 h | _, _ => none
theorem V0_ok : VOk Tryz.prog 106 [1, 1, 0, 1, 0] [3] V0 := by
  intro c l x y h r e
  unfold V0 at e
  split at e
  · exact ⟨Q0, by rw [B0_eq]; exact e⟩
  · cases e
/- (*quietus/levels.Levels).Get: a round -/
def Q1 : Pl := (.n none .z .z)
def B1 (c : CV) (l : Nat) (v0 v1 v2 _ a1 : AV) (h : AH) : R :=
pBegin h l fun h100 =>
pNil a1 fun v101 =>
pFieldA v101 0 fun v102 =>
pLoad1 h100 v102 fun v103 =>
pLoad1 h100 v2 fun v104 =>
pCall c (.fn 204 [] []) [v103, v104] h100 fun v105 h106 =>
pExtract v105 0 fun v107 =>
pExtract v105 1 fun v108 =>
pCond v108 (
pStore h106 v1 v107 1 fun h109 =>
pStore h109 v0 (.bool true) 1 fun h110 =>
pEndRound h110 l (some .ret)) (
pEndRound h106 l none)
theorem B1_eq (c : CV) (l : Nat) (v0 v1 v2 a0 a1 : AV) (h : AH) : roundK Tryz.prog NN Q1 c 164 [1, 0, 1, 0] [5, 4, 3] l [v0, v1, v2] [a0, a1] h = B1 c l v0 v1 v2 a0 a1 h := by kernel_rfl
def V1 (c : CV) (l : Nat) (x y : List AV) (h : AH) : R := match x, y with | [v0, v1, v2], [a0, a1] => B1 c l v0 v1 v2 a0 a1 h | _, _ => none
theorem V1_ok : VOk Tryz.prog 164 [1, 0, 1, 0] [5, 4, 3] V1 := by
  intro c l x y h r e
  unfold V1 at e
  split at e
  · exact ⟨Q1, by rw [B1_eq]; exact e⟩
  · cases e
end
end Go.Proofs.YtbmjiabdcnnkiaaGreatDoor
