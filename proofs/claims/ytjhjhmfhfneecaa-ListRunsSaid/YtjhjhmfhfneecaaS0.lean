/- Printed by a program of mine: the bodies of the program's functions aa terms of the primitives of the abstract executor, each shown equal by the kernel. -/
import Derived.Test.YtjhjhmfhfneecaaProg
import Derived.Test.YtjhjhmfhfneecaaAe1
import Derived.KernelRfl
namespace Go.Proofs.Ytjhjhmfhfneecaa
open Go Go.Ae
set_option maxRecDepth 100000
/- quietus/quietuslaw17.ListRuns -/
def P3 : Pl := (.n none .z (.n none .z (.n none .z (.n none .z (.n none .z (.n none .z (.n none .z (.n none .z (.n none (.r [[44, 42, 11, 9, 8, 7, 6, 5, 4, 0], [47, 46, 11, 9, 8, 7, 6, 5, 0], [51, 49, 11, 9, 8, 7, 6, 0], [55, 53, 11, 9, 8, 7, 0], [59, 57, 11, 9, 8, 0], [63, 61, 11, 8, 0], [68, 65, 11, 8, 0], [74, 70, 11, 8, 0], [80, 76, 11, 0], [84, 82, 0]]) .z)))))))))
def S3 (c : CV) (h : AH) : R :=
pCall c (.fn 5 [] []) [(.int .i64 (.ofNat 100))] h fun v0 h1 =>
pCall c (.fn 4 [] []) [v0, (.int .i64 (.ofNat 96))] h1 fun v2 h3 =>
pEq .ptr false v2 .nilp fun v4 =>
pCond v4 (
some ((.bool false), h3)) (
pCall c (.fn 6 [] []) [v2, (.int .i64 (.ofNat 6)), (.int .u64 (.ofNat 5))] h3 fun v5 h6 =>
pExtract v5 0 fun v7 =>
pExtract v5 1 fun v8 =>
pCall c (.fn 6 [] []) [v2, (.int .i64 (.ofNat 6)), (.int .u64 (.ofNat 3))] h6 fun v9 h10 =>
pExtract v9 0 fun v11 =>
pExtract v9 1 fun v12 =>
pCall c (.fn 6 [] []) [v2, (.int .i64 (.ofNat 6)), (.int .u64 (.ofNat 5))] h10 fun v13 h14 =>
pExtract v13 0 fun v15 =>
pExtract v13 1 fun v16 =>
pCall c (.fn 7 [] []) [v2, (.int .i64 (.ofNat 6))] h14 fun v17 h18 =>
pExtract v17 0 fun v19 =>
pExtract v17 1 fun v20 =>
pCall c (.fn 8 [] []) [v2, (.int .i64 (.ofNat 5)), (.int .u64 (.ofNat 5))] h18 fun v21 h22 =>
pExtract v21 0 fun _ =>
pExtract v21 1 fun v24 =>
joinC (α := AV × AV × AV × AV × AV × AV × AV × AV × AV × AV × Unit → AH → R) (fun s25 h26 =>
pPick s25.2.1 s25.1 (.bool false) fun v28 =>
joinC (α := AV × AV × AV × AV × AV × AV × AV × AV × AV × Unit → AH → R) (fun s29 h30 =>
pPick s29.2.1 s29.1 (.bool false) fun v32 =>
joinC (α := AV × AV × AV × AV × AV × AV × AV × AV × Unit → AH → R) (fun s33 h34 =>
pPick s33.2.1 s33.1 (.bool false) fun v36 =>
joinC (α := AV × AV × AV × AV × AV × AV × AV × Unit → AH → R) (fun s37 h38 =>
pPick s37.2.1 s37.1 (.bool false) fun v40 =>
joinC (α := AV × AV × AV × AV × AV × AV × Unit → AH → R) (fun s41 h42 =>
pPick s41.2.1 s41.1 (.bool false) fun v44 =>
joinC (α := AV × AV × AV × AV × AV × Unit → AH → R) (fun s45 h46 =>
pPick s45.2.1 s45.1 (.bool false) fun v48 =>
joinC (α := AV × AV × AV × AV × AV × Unit → AH → R) (fun s49 h50 =>
pPick s49.2.1 s49.1 (.bool false) fun v52 =>
joinC (α := AV × AV × AV × AV × AV × Unit → AH → R) (fun s53 h54 =>
pPick s53.2.1 s53.1 (.bool false) fun v56 =>
joinC (α := AV × AV × AV × AV × Unit → AH → R) (fun s57 h58 =>
pPick s57.2.1 s57.1 (.bool false) fun v60 =>
joinC (α := AV × AV × AV × Unit → AH → R) (fun s61 h62 =>
pPick s61.2.1 s61.1 (.bool false) fun v64 =>
some (v64, h62)) fun j63 =>
pWant v60 true (
pInt .eql s57.2.2.1 (.int .i64 (.ofNat 2)) fun v65 =>
j63 (v65, v60, s57.2.2.2.1, ()) h58) (
j63 (.undef, v60, s57.2.2.2.1, ()) h58)) fun j59 =>
pWant v56 true (
pIdxS s53.2.2.2.1 (.int .i64 (.ofNat 1)) 1 fun v66 =>
pLoad1 h54 v66 fun v67 =>
pInt .eql v67 (.int .u64 (.ofNat 5)) fun v68 =>
j59 (v68, v56, s53.2.2.1, s53.2.2.2.2.1, ()) h54) (
j59 (.undef, v56, s53.2.2.1, s53.2.2.2.2.1, ()) h54)) fun j55 =>
pWant v52 true (
pIdxS s49.2.2.2.1 (.int .i64 (.ofNat 0)) 1 fun v69 =>
pLoad1 h50 v69 fun v70 =>
pInt .eql v70 (.int .u64 (.ofNat 3)) fun v71 =>
j55 (v71, v52, s49.2.2.1, s49.2.2.2.1, s49.2.2.2.2.1, ()) h50) (
j55 (.undef, v52, s49.2.2.1, s49.2.2.2.1, s49.2.2.2.2.1, ()) h50)) fun j51 =>
pWant v48 true (
pLenS s45.2.2.2.1 fun v72 =>
pInt .eql v72 (.int .i64 (.ofNat 2)) fun v73 =>
j51 (v73, v48, s45.2.2.1, s45.2.2.2.1, s45.2.2.2.2.1, ()) h46) (
j51 (.undef, v48, s45.2.2.1, s45.2.2.2.1, s45.2.2.2.2.1, ()) h46)) fun j47 =>
pWant v44 true (
pInt .eql s41.2.2.2.1 (.int .i64 (.ofNat 0)) fun v74 =>
j47 (v74, v44, s41.2.2.1, s41.2.2.2.2.1, s41.2.2.2.2.2.1, ()) h42) (
j47 (.undef, v44, s41.2.2.1, s41.2.2.2.2.1, s41.2.2.2.2.2.1, ()) h42)) fun j43 =>
pWant v40 true (
pInt .eql s37.2.2.2.2.2.1 (.int .i64 (.ofNat 0)) fun v75 =>
j43 (v75, v40, s37.2.2.1, s37.2.2.2.1, s37.2.2.2.2.1, s37.2.2.2.2.2.2.1, ()) h38) (
j43 (.undef, v40, s37.2.2.1, s37.2.2.2.1, s37.2.2.2.2.1, s37.2.2.2.2.2.2.1, ()) h38)) fun j39 =>
pWant v36 true (
pUn .not s33.2.2.2.2.2.2.1 fun v76 =>
j39 (v76, v36, s33.2.2.1, s33.2.2.2.1, s33.2.2.2.2.1, s33.2.2.2.2.2.1, s33.2.2.2.2.2.2.2.1, ()) h34) (
j39 (.undef, v36, s33.2.2.1, s33.2.2.2.1, s33.2.2.2.2.1, s33.2.2.2.2.2.1, s33.2.2.2.2.2.2.2.1, ()) h34)) fun j35 =>
pWant v32 true (
pInt .eql s29.2.2.2.2.2.2.2.1 (.int .i64 (.ofNat 0)) fun v77 =>
j35 (v77, v32, s29.2.2.1, s29.2.2.2.1, s29.2.2.2.2.1, s29.2.2.2.2.2.1, s29.2.2.2.2.2.2.1, s29.2.2.2.2.2.2.2.2.1, ()) h30) (
j35 (.undef, v32, s29.2.2.1, s29.2.2.2.1, s29.2.2.2.2.1, s29.2.2.2.2.2.1, s29.2.2.2.2.2.2.1, s29.2.2.2.2.2.2.2.2.1, ()) h30)) fun j31 =>
pWant v28 true (
j31 (s25.2.2.2.2.2.2.2.2.1, v28, s25.2.2.1, s25.2.2.2.1, s25.2.2.2.2.1, s25.2.2.2.2.2.1, s25.2.2.2.2.2.2.1, s25.2.2.2.2.2.2.2.1, s25.2.2.2.2.2.2.2.2.2.1, ()) h26) (
j31 (.undef, v28, s25.2.2.1, s25.2.2.2.1, s25.2.2.2.2.1, s25.2.2.2.2.2.1, s25.2.2.2.2.2.2.1, s25.2.2.2.2.2.2.2.1, s25.2.2.2.2.2.2.2.2.2.1, ()) h26)) fun j27 =>
pWant v7 true (
pInt .eql v8 (.int .i64 (.ofNat 0)) fun v78 =>
j27 (v78, v7, v24, v20, v19, v16, v15, v12, v11, (.bool false), ()) h22) (
j27 (.undef, v7, v24, v20, v19, v16, v15, v12, v11, (.bool false), ()) h22))
theorem S3_eq (c : CV) (h : AH) : enterK Try.prog NN P3 c 3 [] h = S3 c h := by kernel_rfl
def W3 (c : CV) (l : List AV) (h : AH) : R := match l with | [] => S3 c h | _ => none
theorem W3_ok : WOk Try.prog 3 W3 := by
  intro c l h r e
  unfold W3 at e
  split at e
  · exact ⟨P3, by rw [S3_eq]; exact e⟩
  · cases e
/- quietus/view.Whole -/
def P4 : Pl := (.n none .z (.n none .z (.n none (.n none .z (.n none (.n (some [6, 5, 4, 0]) (.n none .z (.n none (.n none (.n none .z (.n (some [21, 20, 19, 18, 15, 14, 13, 12, 7, 6, 5, 4, 0]) .z .z)) .z) .z)) .z) .z)) .z)))
def S4 (c : CV) (a0 a1 : AV) (h : AH) : R :=
pLenS a0 fun v0 =>
pCall c (.fn 9 [] []) [v0, a1] h fun v1 h2 =>
loopC (σ := AV × AV × AV × AV × Unit) NN (fun i6 s3 h4 d5 =>
pCall c (.fn 10 [] []) [s3.2.1] h4 fun v7 h8 =>
pInt .lss s3.1 v7 fun v9 =>
pCond v9 (
joinC (α := AV × AV × AV × AV × AV × AV × AV × AV × AV × AV × AV × AV × AV × Unit → AH → List Nat → R) (fun s10 h11 d12 =>
pCall c (.fn 11 [] []) [s10.2.2.2.2.2.2.2.2.2.2.1, s10.2.2.2.2.2.2.2.2.2.1, s10.2.2.2.2.2.2.2.2.1] h11 fun _ h15 =>
pInt .add s10.2.2.2.2.2.2.2.2.2.1 (.int .i64 (.ofNat 1)) fun v16 =>
i6 (v16, s10.2.2.2.2.2.2.2.2.2.2.1, s10.2.2.2.2.2.2.2.2.2.2.2.1, s10.2.2.2.2.2.2.2.2.2.2.2.2.1, ()) h15 d12) fun j13 =>
pLenS s3.2.2.2.1 fun v17 =>
pInt .lss s3.1 v17 fun v18 =>
pCond v18 (
pIdxS s3.2.2.2.1 s3.1 1 fun v19 =>
pLoad1 h8 v19 fun v20 =>
j13 (v18, v17, s3.2.2.2.1, s3.1, v9, v7, s3.2.1, s3.1, v20, s3.1, s3.2.1, s3.2.2.1, s3.2.2.2.1, ()) h8 d5) (
j13 (v18, v17, s3.2.2.2.1, s3.1, v9, v7, s3.2.1, s3.1, (.int .u64 (.ofNat 0)), s3.1, s3.2.1, s3.2.2.1, s3.2.2.2.1, ()) h8 d5)) (
pLeave d5 h8 fun h21 =>
some (s3.2.1, h21))) ((.int .i64 (.ofNat 1)), v1, .nilp, a0, ()) h2 []
theorem S4_eq (c : CV) (a0 a1 : AV) (h : AH) : enterK Try.prog NN P4 c 4 [a0, a1] h = S4 c a0 a1 h := by kernel_rfl
def W4 (c : CV) (l : List AV) (h : AH) : R := match l with | [a0, a1] => S4 c a0 a1 h | _ => none
theorem W4_ok : WOk Try.prog 4 W4 := by
  intro c l h r e
  unfold W4 at e
  split at e
  · exact ⟨P4, by rw [S4_eq]; exact e⟩
  · cases e
/- quietus/arena.Fresh -/
def P5 : Pl := .z
def S5 (_ : CV) (a0 : AV) (h : AH) : R :=
pMM false [a0, (.int .i64 (.ofNat 256))] fun v0 =>
pMM true [(.int .i64 (.ofNat 32)), v0] fun v1 =>
pMake h 29 [(.int .u64 (.ofNat 0))] v1 v1 fun v2 h3 =>
pIdxS v2 (.int .i64 (.ofNat 5)) 1 fun v4 =>
pStore h3 v4 (.int .u64 (.ofNat 14)) 1 fun h5 =>
some (v2, h5)
theorem S5_eq (c : CV) (a0 : AV) (h : AH) : enterK Try.prog NN P5 c 5 [a0] h = S5 c a0 h := by kernel_rfl
def W5 (c : CV) (l : List AV) (h : AH) : R := match l with | [a0] => S5 c a0 h | _ => none
theorem W5_ok : WOk Try.prog 5 W5 := by
  intro c l h r e
  unfold W5 at e
  split at e
  · exact ⟨P5, by rw [S5_eq]; exact e⟩
  · cases e
/- quietus/list.Add -/
def P6 : Pl := (.n none .z (.n none .z (.n none .z (.n none (.r [[17, 15, 9, 7, 6]]) .z))))
def S6 (c : CV) (a0 a1 a2 : AV) (h : AH) : R :=
pBox h 3 a1 fun v0 h1 =>
pBox h1 29 a2 fun v2 h3 =>
pBox h3 4 (.bool false) fun v4 h5 =>
pStore h5 v4 (.bool false) 1 fun h6 =>
pLoad1 h6 v0 fun v7 =>
pCall c (.fn 12 [] []) [a0, v7, (.fn 13 [] [v0, v2, v4])] h6 fun v8 h9 =>
pLoad1 h9 v4 fun v10 =>
joinC (α := AV × AV × AV × AV × AV × Unit → AH → R) (fun s11 h12 =>
pPick s11.2.1 s11.1 (.bool false) fun v14 =>
some ((.tup [v14, s11.2.2.1]), h12)) fun j13 =>
pWant v10 true (
pInt .eql v8 (.int .i64 (.ofNat 0)) fun v15 =>
j13 (v15, v10, v8, (.int .i64 (.ofNat 0)), (.bool false), ()) h9) (
j13 (.undef, v10, v8, (.int .i64 (.ofNat 0)), (.bool false), ()) h9)
theorem S6_eq (c : CV) (a0 a1 a2 : AV) (h : AH) : enterK Try.prog NN P6 c 6 [a0, a1, a2] h = S6 c a0 a1 a2 h := by kernel_rfl
def W6 (c : CV) (l : List AV) (h : AH) : R := match l with | [a0, a1, a2] => S6 c a0 a1 a2 h | _ => none
theorem W6_ok : WOk Try.prog 6 W6 := by
  intro c l h r e
  unfold W6 at e
  split at e
  · exact ⟨P6, by rw [S6_eq]; exact e⟩
  · cases e
/- quietus/list.All -/
def P7 : Pl := .z
def S7 (c : CV) (a0 a1 : AV) (h : AH) : R :=
pBox h 3 a1 fun v0 h1 =>
pBox h1 24 .nils fun v2 h3 =>
pLoad1 h3 v0 fun v4 =>
pCall c (.fn 12 [] []) [a0, v4, (.fn 20 [] [v0, v2])] h3 fun v5 h6 =>
pInt .neq v5 (.int .i64 (.ofNat 0)) fun v7 =>
pCond v7 (
some ((.tup [.nils, v5]), h6)) (
pLoad1 h6 v2 fun v8 =>
some ((.tup [v8, (.int .i64 (.ofNat 0))]), h6))
theorem S7_eq (c : CV) (a0 a1 : AV) (h : AH) : enterK Try.prog NN P7 c 7 [a0, a1] h = S7 c a0 a1 h := by kernel_rfl
def W7 (c : CV) (l : List AV) (h : AH) : R := match l with | [a0, a1] => S7 c a0 a1 h | _ => none
theorem W7_ok : WOk Try.prog 7 W7 := by
  intro c l h r e
  unfold W7 at e
  split at e
  · exact ⟨P7, by rw [S7_eq]; exact e⟩
  · cases e
/- quietus/list.Has -/
def P8 : Pl := (.n none .z (.n none .z (.n none .z (.n none (.r [[17, 15, 9, 7, 6]]) .z))))
def S8 (c : CV) (a0 a1 a2 : AV) (h : AH) : R :=
pBox h 3 a1 fun v0 h1 =>
pBox h1 29 a2 fun v2 h3 =>
pBox h3 4 (.bool false) fun v4 h5 =>
pStore h5 v4 (.bool false) 1 fun h6 =>
pLoad1 h6 v0 fun v7 =>
pCall c (.fn 12 [] []) [a0, v7, (.fn 24 [] [v0, v2, v4])] h6 fun v8 h9 =>
pLoad1 h9 v4 fun v10 =>
joinC (α := AV × AV × AV × AV × AV × Unit → AH → R) (fun s11 h12 =>
pPick s11.2.1 s11.1 (.bool false) fun v14 =>
some ((.tup [v14, s11.2.2.1]), h12)) fun j13 =>
pWant v10 true (
pInt .eql v8 (.int .i64 (.ofNat 0)) fun v15 =>
j13 (v15, v10, v8, (.int .i64 (.ofNat 0)), (.bool false), ()) h9) (
j13 (.undef, v10, v8, (.int .i64 (.ofNat 0)), (.bool false), ()) h9)
theorem S8_eq (c : CV) (a0 a1 a2 : AV) (h : AH) : enterK Try.prog NN P8 c 8 [a0, a1, a2] h = S8 c a0 a1 a2 h := by kernel_rfl
def W8 (c : CV) (l : List AV) (h : AH) : R := match l with | [a0, a1, a2] => S8 c a0 a1 a2 h | _ => none
theorem W8_ok : WOk Try.prog 8 W8 := by
  intro c l h r e
  unfold W8 at e
  split at e
  · exact ⟨P8, by rw [S8_eq]; exact e⟩
  · cases e
/- quietus/view.New -/
def P9 : Pl := .z
def S9 (c : CV) (a0 a1 : AV) (h : AH) : R :=
pMM false [a0, (.int .i64 (.ofNat 256))] fun v0 =>
pMM true [(.int .i64 (.ofNat 32)), v0] fun v1 =>
pMake h 54 [(.int .u64 (.ofNat 0)), (.bool false)] v1 v1 fun v2 h3 =>
pCall c (.fn 25 [] []) [a1] h3 fun v4 h5 =>
pBuild [.nils, .nils, .nilp, (.int .i64 (.ofNat 0))] [(0, 1, v2), (2, 1, v4)] fun v6 =>
pBox h5 51 v6 fun v7 h8 =>
some (v7, h8)
theorem S9_eq (c : CV) (a0 a1 : AV) (h : AH) : enterK Try.prog NN P9 c 9 [a0, a1] h = S9 c a0 a1 h := by kernel_rfl
def W9 (c : CV) (l : List AV) (h : AH) : R := match l with | [a0, a1] => S9 c a0 a1 h | _ => none
theorem W9_ok : WOk Try.prog 9 W9 := by
  intro c l h r e
  unfold W9 at e
  split at e
  · exact ⟨P9, by rw [S9_eq]; exact e⟩
  · cases e
/- (*quietus/view.View).Size -/
def P10 : Pl := .z
def S10 (_ : CV) (a0 : AV) (h : AH) : R :=
pNil a0 fun v0 =>
pFieldA v0 0 fun v1 =>
pLoad1 h v1 fun v2 =>
pLenS v2 fun v3 =>
some (v3, h)
theorem S10_eq (c : CV) (a0 : AV) (h : AH) : enterK Try.prog NN P10 c 10 [a0] h = S10 c a0 h := by kernel_rfl
def W10 (c : CV) (l : List AV) (h : AH) : R := match l with | [a0] => S10 c a0 h | _ => none
theorem W10_ok : WOk Try.prog 10 W10 := by
  intro c l h r e
  unfold W10 at e
  split at e
  · exact ⟨P10, by rw [S10_eq]; exact e⟩
  · cases e
/- (*quietus/view.View).Know -/
def P11 : Pl := .z
def S11 (c : CV) (a0 a1 a2 : AV) (h : AH) : R :=
pCall c (.fn 26 [] []) [a0, a1] h fun v0 h1 =>
pUn .not v0 fun v2 =>
pCond v2 (
some ((.int .i64 (.ofNat 2)), h1)) (
pNil a0 fun v3 =>
pFieldA v3 0 fun v4 =>
pLoad1 h1 v4 fun v5 =>
pIdxS v5 a1 2 fun v6 =>
pLoadN h1 v6 2 fun v7 =>
pBox h1 54 (.agg [(.int .u64 (.ofNat 0)), (.bool false)]) fun v8 h9 =>
pStore h9 v8 v7 2 fun h10 =>
pFieldA v8 1 fun v11 =>
pLoad1 h10 v11 fun v12 =>
pCond v12 (
pFieldA v8 0 fun v13 =>
pLoad1 h10 v13 fun v14 =>
pInt .neq v14 a2 fun v15 =>
pCond v15 (
some ((.int .i64 (.ofNat 14)), h10)) (
some ((.int .i64 (.ofNat 0)), h10))) (
pNil a0 fun v16 =>
pFieldA v16 0 fun v17 =>
pLoad1 h10 v17 fun v18 =>
pBuild [(.int .u64 (.ofNat 0)), (.bool false)] [(0, 1, a2), (1, 1, (.bool true))] fun v19 =>
pIdxS v18 a1 2 fun v20 =>
pStore h10 v20 v19 2 fun h21 =>
pNil a0 fun v22 =>
pFieldA v22 1 fun v23 =>
pLoad1 h21 v23 fun v24 =>
pBuildS h21 3 [(.int .i64 (.ofNat 0))] 1 [(0, 1, a1)] fun v25 h26 =>
pAppend h26 3 1 v24 v25 fun v27 h28 =>
pNil a0 fun v29 =>
pFieldA v29 1 fun v30 =>
pStore h28 v30 v27 1 fun h31 =>
some ((.int .i64 (.ofNat 0)), h31)))
theorem S11_eq (c : CV) (a0 a1 a2 : AV) (h : AH) : enterK Try.prog NN P11 c 11 [a0, a1, a2] h = S11 c a0 a1 a2 h := by kernel_rfl
def W11 (c : CV) (l : List AV) (h : AH) : R := match l with | [a0, a1, a2] => S11 c a0 a1 a2 h | _ => none
theorem W11_ok : WOk Try.prog 11 W11 := by
  intro c l h r e
  unfold W11 at e
  split at e
  · exact ⟨P11, by rw [S11_eq]; exact e⟩
  · cases e
/- quietus/draft.Do -/
def P12 : Pl := (.n none .z (.n none (.n none (.r [[17, 15, 6, 2, 0]]) .z) (.n none .z (.n none .z (.n none .z (.n none .z (.n none .z (.n none (.n none .z (.n none (.n (some [67, 66, 65, 6, 0]) .z .z) .z)) .z))))))))
def S12 (c : CV) (a0 a1 a2 : AV) (h : AH) : R :=
pInt .lss a1 (.int .i64 (.ofNat 6)) fun v0 =>
joinC (α := AV × AV × AV × AV × AV × Unit → AH → R) (fun s1 h2 =>
pPick s1.2.1 (.bool true) s1.1 fun v4 =>
pCond v4 (
some ((.int .i64 (.ofNat 2)), h2)) (
pCall c (.fn 27 [] []) [s1.2.2.2.2.1] h2 fun v5 h6 =>
pBuild [.nilp, (.int .i64 (.ofNat 0)), (.int .i64 (.ofNat 0))] [(0, 1, v5)] fun v7 =>
pBox h6 57 v7 fun v8 h9 =>
pCall c s1.2.2.2.1 [v8] h9 fun _ h11 =>
pNil v8 fun v12 =>
pFieldA v12 1 fun v13 =>
pLoad1 h11 v13 fun v14 =>
pInt .eql v14 (.int .i64 (.ofNat 11)) fun v15 =>
pCond v15 (
pNil v8 fun v16 =>
pFieldA v16 0 fun v17 =>
pLoad1 h11 v17 fun v18 =>
pCall c (.fn 29 [] []) [v18] h11 fun v19 h20 =>
pCall c (.fn 28 [] []) [s1.2.2.2.2.1, v19] h20 fun v21 h22 =>
pExtract v21 0 fun _ =>
pExtract v21 1 fun v24 =>
some (v24, h22)) (
pNil v8 fun v25 =>
pFieldA v25 1 fun v26 =>
pLoad1 h11 v26 fun v27 =>
pInt .neq v27 (.int .i64 (.ofNat 0)) fun v28 =>
pCond v28 (
pNil v8 fun v29 =>
pFieldA v29 1 fun v30 =>
pLoad1 h11 v30 fun v31 =>
some (v31, h11)) (
pNil v8 fun v32 =>
pFieldA v32 0 fun v33 =>
pLoad1 h11 v33 fun v34 =>
pCall c (.fn 31 [] []) [v34] h11 fun v35 h36 =>
pCall c (.fn 30 [] []) [s1.2.2.2.2.1, v35] h36 fun v37 h38 =>
pInt .neq v37 (.int .i64 (.ofNat 0)) fun v39 =>
pCond v39 (
some (v37, h38)) (
pNil v8 fun v40 =>
pFieldA v40 0 fun v41 =>
pLoad1 h38 v41 fun v42 =>
pCall c (.fn 32 [] []) [v42] h38 fun v43 h44 =>
pLenS v43 fun v45 =>
loopC (σ := AV × AV × AV × AV × AV × Unit) NN (fun i49 s46 h47 d48 =>
pInt .lss s46.1 s46.2.1 fun v50 =>
pCond v50 (
pIdxS s46.2.2.1 s46.1 1 fun v51 =>
pLoad1 h47 v51 fun v52 =>
pCall c (.fn 33 [] []) [s46.2.2.2.2.1, v52] h47 fun _ h54 =>
pInt .add s46.1 (.int .i64 (.ofNat 1)) fun v55 =>
i49 (v55, s46.2.1, s46.2.2.1, s46.2.2.2.1, s46.2.2.2.2.1, ()) h54 d48) (
pLeave d48 h47 fun h56 =>
some ((.int .i64 (.ofNat 0)), h56))) ((.int .i64 (.ofNat 0)), v45, v43, s1.2.2.1, s1.2.2.2.2.1, ()) h44 []))))) fun j3 =>
pWant v0 false (
pInt .geq a1 (.int .i64 (.ofNat 14)) fun v57 =>
j3 (v57, v0, (.int .i64 (.ofNat 0)), a2, a0, ()) h) (
j3 (.undef, v0, (.int .i64 (.ofNat 0)), a2, a0, ()) h)
theorem S12_eq (c : CV) (a0 a1 a2 : AV) (h : AH) : enterK Try.prog NN P12 c 12 [a0, a1, a2] h = S12 c a0 a1 a2 h := by kernel_rfl
def W12 (c : CV) (l : List AV) (h : AH) : R := match l with | [a0, a1, a2] => S12 c a0 a1 a2 h | _ => none
theorem W12_ok : WOk Try.prog 12 W12 := by
  intro c l h r e
  unfold W12 at e
  split at e
  · exact ⟨P12, by rw [S12_eq]; exact e⟩
  · cases e
/- quietus/list.Add$1 -/
def P13 : Pl := (.n none .z (.n none (.n none (.r [[22, 18, 6, 5, 3, 2, 0]]) .z) .z))
def S13 (c : CV) (a0 a1 a2 a3 : AV) (h : AH) : R :=
pLoad1 h a1 fun v0 =>
pLoad1 h a2 fun v1 =>
pCall c (.fn 14 [] []) [a0, v0, v1] h fun v2 h3 =>
pExtract v2 0 fun v4 =>
pExtract v2 1 fun v5 =>
pCall c (.fn 15 [] []) [a0] h3 fun v6 h7 =>
pUn .not v6 fun v8 =>
joinC (α := AV × AV × AV × AV × AV × AV × AV × Unit → AH → R) (fun s9 h10 =>
pPick s9.2.1 (.bool true) s9.1 fun v12 =>
pCond v12 (
some ((.tup []), h10)) (
pCall c (.fn 17 [] []) [s9.2.2.2.2.2.2.1, (.int .i64 (.ofNat 2))] h10 fun v13 h14 =>
pInt .add v13 (.int .i64 (.ofNat 0)) fun v15 =>
pLoad1 h14 s9.2.2.2.2.2.1 fun v16 =>
pCall c (.fn 18 [] []) [s9.2.2.2.2.2.2.1, v15, v16] h14 fun _ h18 =>
pInt .add v13 (.int .i64 (.ofNat 1)) fun v19 =>
pCall c (.fn 19 [] []) [s9.2.2.2.2.2.2.1, v19, s9.2.2.1] h18 fun _ h21 =>
pCall c (.fn 19 [] []) [s9.2.2.2.2.2.2.1, s9.2.2.2.1, v13] h21 fun _ h23 =>
pStore h23 s9.2.2.2.2.1 (.bool true) 1 fun h24 =>
some ((.tup []), h24))) fun j11 =>
pWant v8 false (
pLoad1 h7 a2 fun v25 =>
pCall c (.fn 16 [] []) [a0, v5, v25] h7 fun v26 h27 =>
j11 (v26, v8, v5, v4, a3, a2, a0, ()) h27) (
j11 (.undef, v8, v5, v4, a3, a2, a0, ()) h7)
theorem S13_eq (c : CV) (a0 a1 a2 a3 : AV) (h : AH) : enterK Try.prog NN P13 c 13 [a0, a1, a2, a3] h = S13 c a0 a1 a2 a3 h := by kernel_rfl
def W13 (c : CV) (l : List AV) (h : AH) : R := match l with | [a0, a1, a2, a3] => S13 c a0 a1 a2 a3 h | _ => none
theorem W13_ok : WOk Try.prog 13 W13 := by
  intro c l h r e
  unfold W13 at e
  split at e
  · exact ⟨P13, by rw [S13_eq]; exact e⟩
  · cases e
/- quietus/list.seek -/
def P14 : Pl := (.n none .z (.n none .z (.n none (.n (some [7, 6]) (.n (some [7, 6, 2, 0]) (.n none .z (.n none (.n none .z (.n none (.n none (.r [[22, 21, 20, 19, 18, 17, 16, 15, 14, 13, 12, 11, 10, 9, 7, 6, 2, 0]]) .z) .z)) .z)) .z) .z) .z)))
def S14 (c : CV) (a0 a1 a2 : AV) (h : AH) : R :=
joinC (α := AV × AV × Unit → AH → List Nat → R) (fun s0 h1 d2 =>
pLeave d2 h1 fun h4 =>
some ((.tup [s0.2.1, s0.1]), h4)) fun j3 =>
loopC (σ := AV × AV × AV × AV × Unit) NN (fun i8 s5 h6 d7 =>
pCall c (.fn 22 [] []) [s5.2.2.2.1] h6 fun v9 h10 =>
pCond v9 (
pCall c (.fn 21 [] []) [s5.2.2.2.1, s5.2.1] h10 fun v11 h12 =>
pInt .eql v11 (.int .i64 (.ofNat 0)) fun v13 =>
joinC (α := AV × AV × AV × AV × AV × AV × AV × AV × AV × AV × AV × AV × AV × AV × AV × AV × AV × AV × Unit → AH → R) (fun s14 h15 =>
pPick s14.2.2.2.2.2.2.1 (.bool true) s14.1 fun v17 =>
pCond v17 (
j3 (s14.2.2.2.2.2.2.2.2.2.2.2.2.2.2.1, s14.2.2.2.2.2.2.2.2.2.2.2.2.2.2.2.1, ()) h15 d7) (
pInt .add s14.2.2.2.2.2.2.2.2.2.2.2.2.2.2.1 (.int .i64 (.ofNat 1)) fun v18 =>
i8 (s14.2.2.2.2.2.2.2.2.2.2.2.2.2.2.1, v18, s14.2.2.2.2.2.2.2.2.2.2.2.2.2.2.2.2.1, s14.2.2.2.2.2.2.2.2.2.2.2.2.2.2.2.2.2.1, ()) h15 d7)) fun j16 =>
pWant v13 false (
pInt .add v11 (.int .i64 (.ofNat 0)) fun v19 =>
pCall c (.fn 23 [] []) [s5.2.2.2.1, v19] h12 fun v20 h21 =>
pInt .geq v20 s5.2.2.1 fun v22 =>
j16 (v22, s5.2.2.1, v20, v19, v11, s5.2.2.2.1, v13, v13, v11, v11, s5.2.1, s5.2.2.2.1, v9, s5.2.2.2.1, v11, s5.2.1, s5.2.2.1, s5.2.2.2.1, ()) h21) (
j16 (.undef, .undef, .undef, .undef, .undef, .undef, v13, v13, v11, v11, s5.2.1, s5.2.2.2.1, v9, s5.2.2.2.1, v11, s5.2.1, s5.2.2.1, s5.2.2.2.1, ()) h12)) (
j3 (s5.1, s5.2.1, ()) h10 d7)) ((.int .i64 (.ofNat 0)), a1, a2, a0, ()) h []
theorem S14_eq (c : CV) (a0 a1 a2 : AV) (h : AH) : enterK Try.prog NN P14 c 14 [a0, a1, a2] h = S14 c a0 a1 a2 h := by kernel_rfl
def W14 (c : CV) (l : List AV) (h : AH) : R := match l with | [a0, a1, a2] => S14 c a0 a1 a2 h | _ => none
theorem W14_ok : WOk Try.prog 14 W14 := by
  intro c l h r e
  unfold W14 at e
  split at e
  · exact ⟨P14, by rw [S14_eq]; exact e⟩
  · cases e
/- (*quietus/draft.Draft).OK -/
def P15 : Pl := .z
def S15 (_ : CV) (a0 : AV) (h : AH) : R :=
pNil a0 fun v0 =>
pFieldA v0 1 fun v1 =>
pLoad1 h v1 fun v2 =>
pInt .eql v2 (.int .i64 (.ofNat 0)) fun v3 =>
some (v3, h)
theorem S15_eq (c : CV) (a0 : AV) (h : AH) : enterK Try.prog NN P15 c 15 [a0] h = S15 c a0 h := by kernel_rfl
def W15 (c : CV) (l : List AV) (h : AH) : R := match l with | [a0] => S15 c a0 h | _ => none
theorem W15_ok : WOk Try.prog 15 W15 := by
  intro c l h r e
  unfold W15 at e
  split at e
  · exact ⟨P15, by rw [S15_eq]; exact e⟩
  · cases e
/- quietus/list.found -/
def P16 : Pl := (.n none .z (.n none (.r [[11, 9, 6, 2, 1, 0], [19, 13, 6]]) .z))
def S16 (c : CV) (a0 a1 a2 : AV) (h : AH) : R :=
pCall c (.fn 15 [] []) [a0] h fun v0 h1 =>
joinC (α := AV × AV × AV × AV × AV × AV × Unit → AH → R) (fun s2 h3 =>
pPick s2.2.1 s2.1 (.bool false) fun v5 =>
joinC (α := AV × AV × AV × Unit → AH → R) (fun s6 h7 =>
pPick s6.2.1 s6.1 (.bool false) fun v9 =>
some (v9, h7)) fun j8 =>
pWant v5 true (
pInt .add s2.2.2.2.2.1 (.int .i64 (.ofNat 0)) fun v10 =>
pCall c (.fn 23 [] []) [s2.2.2.2.2.2.1, v10] h3 fun v11 h12 =>
pInt .eql v11 s2.2.2.2.1 fun v13 =>
j8 (v13, v5, s2.2.2.1, ()) h12) (
j8 (.undef, v5, s2.2.2.1, ()) h3)) fun j4 =>
pWant v0 true (
pInt .neq a1 (.int .i64 (.ofNat 0)) fun v14 =>
j4 (v14, v0, (.bool false), a2, a1, a0, ()) h1) (
j4 (.undef, v0, (.bool false), a2, a1, a0, ()) h1)
theorem S16_eq (c : CV) (a0 a1 a2 : AV) (h : AH) : enterK Try.prog NN P16 c 16 [a0, a1, a2] h = S16 c a0 a1 a2 h := by kernel_rfl
def W16 (c : CV) (l : List AV) (h : AH) : R := match l with | [a0, a1, a2] => S16 c a0 a1 a2 h | _ => none
theorem W16_ok : WOk Try.prog 16 W16 := by
  intro c l h r e
  unfold W16 at e
  split at e
  · exact ⟨P16, by rw [S16_eq]; exact e⟩
  · cases e
/- (*quietus/draft.Draft).Alloc -/
def P17 : Pl := .z
def S17 (c : CV) (a0 a1 : AV) (h : AH) : R :=
pCall c (.fn 15 [] []) [a0] h fun v0 h1 =>
pUn .not v0 fun v2 =>
pCond v2 (
some ((.int .i64 (.ofNat 0)), h1)) (
pNil a0 fun v3 =>
pFieldA v3 0 fun v4 =>
pLoad1 h1 v4 fun v5 =>
pCall c (.fn 34 [] []) [v5, a1] h1 fun v6 h7 =>
pExtract v6 0 fun v8 =>
pExtract v6 1 fun v9 =>
pCall c (.fn 35 [] []) [a0, v9] h7 fun _ h11 =>
some (v8, h11))
theorem S17_eq (c : CV) (a0 a1 : AV) (h : AH) : enterK Try.prog NN P17 c 17 [a0, a1] h = S17 c a0 a1 h := by kernel_rfl
def W17 (c : CV) (l : List AV) (h : AH) : R := match l with | [a0, a1] => S17 c a0 a1 h | _ => none
theorem W17_ok : WOk Try.prog 17 W17 := by
  intro c l h r e
  unfold W17 at e
  split at e
  · exact ⟨P17, by rw [S17_eq]; exact e⟩
  · cases e
/- (*quietus/draft.Draft).Write -/
def P18 : Pl := .z
def S18 (c : CV) (a0 a1 a2 : AV) (h : AH) : R :=
pCall c (.fn 15 [] []) [a0] h fun v0 h1 =>
pCond v0 (
pNil a0 fun v2 =>
pFieldA v2 0 fun v3 =>
pLoad1 h1 v3 fun v4 =>
pCall c (.fn 36 [] []) [v4, a1, a2] h1 fun v5 h6 =>
pCall c (.fn 35 [] []) [a0, v5] h6 fun _ h8 =>
some ((.tup []), h8)) (
some ((.tup []), h1))
theorem S18_eq (c : CV) (a0 a1 a2 : AV) (h : AH) : enterK Try.prog NN P18 c 18 [a0, a1, a2] h = S18 c a0 a1 a2 h := by kernel_rfl
def W18 (c : CV) (l : List AV) (h : AH) : R := match l with | [a0, a1, a2] => S18 c a0 a1 a2 h | _ => none
theorem W18_ok : WOk Try.prog 18 W18 := by
  intro c l h r e
  unfold W18 at e
  split at e
  · exact ⟨P18, by rw [S18_eq]; exact e⟩
  · cases e
/- (*quietus/draft.Draft).Point -/
def P19 : Pl := .z
def S19 (c : CV) (a0 a1 a2 : AV) (h : AH) : R :=
pConvI .u64 a2 fun v0 =>
pCall c (.fn 18 [] []) [a0, a1, v0] h fun _ h2 =>
some ((.tup []), h2)
theorem S19_eq (c : CV) (a0 a1 a2 : AV) (h : AH) : enterK Try.prog NN P19 c 19 [a0, a1, a2] h = S19 c a0 a1 a2 h := by kernel_rfl
def W19 (c : CV) (l : List AV) (h : AH) : R := match l with | [a0, a1, a2] => S19 c a0 a1 a2 h | _ => none
theorem W19_ok : WOk Try.prog 19 W19 := by
  intro c l h r e
  unfold W19 at e
  split at e
  · exact ⟨P19, by rw [S19_eq]; exact e⟩
  · cases e
/- quietus/list.All$1 -/
def P20 : Pl := (.n none .z (.n none (.n (some [4, 2, 0]) (.n none (.n none (.r [[12, 11, 10, 9, 8, 4, 2, 0]]) .z) (.n none (.n none (.r [[24, 23, 22, 21, 20, 19, 18, 13, 12, 11, 10, 9, 8, 4, 2, 0]]) .z) .z)) .z) .z))
def S20 (c : CV) (a0 a1 a2 : AV) (h : AH) : R :=
pLoad1 h a1 fun v0 =>
pCall c (.fn 21 [] []) [a0, v0] h fun v1 h2 =>
loopC (σ := AV × AV × AV × Unit) NN (fun i6 s3 h4 d5 =>
pInt .neq s3.1 (.int .i64 (.ofNat 0)) fun v7 =>
joinC (α := AV × AV × AV × AV × AV × AV × AV × AV × Unit → AH → R) (fun s8 h9 =>
pPick s8.2.2.1 s8.1 (.bool false) fun v11 =>
pCond v11 (
joinC (α := AV × AV × AV × AV × AV × AV × AV × AV × AV × AV × AV × AV × AV × AV × AV × AV × Unit → AH → R) (fun s12 h13 =>
pInt .add s12.2.2.2.2.2.2.2.2.2.2.2.2.2.1 (.int .i64 (.ofNat 1)) fun v15 =>
pCall c (.fn 21 [] []) [s12.2.2.2.2.2.2.2.2.2.2.2.2.2.2.2.1, v15] h13 fun v16 h17 =>
i6 (v16, s12.2.2.2.2.2.2.2.2.2.2.2.2.2.2.1, s12.2.2.2.2.2.2.2.2.2.2.2.2.2.2.2.1, ()) h17 d5) fun j14 =>
pLoad1 h9 s8.2.2.2.2.2.2.1 fun v18 =>
pInt .add s8.2.2.2.2.2.1 (.int .i64 (.ofNat 0)) fun v19 =>
pCall c (.fn 23 [] []) [s8.2.2.2.2.2.2.2.1, v19] h9 fun v20 h21 =>
pBuildS h21 29 [(.int .u64 (.ofNat 0))] 1 [(0, 1, v20)] fun v22 h23 =>
pAppend h23 29 1 v18 v22 fun v24 h25 =>
pStore h25 s8.2.2.2.2.2.2.1 v24 1 fun h26 =>
pChk s8.2.2.2.2.2.2.1 none v18 h9 h21 h9.nx <|
j14 (v24, v22, v20, v19, s8.2.2.2.2.2.1, s8.2.2.2.2.2.2.2.1, v18, v11, s8.1, s8.2.1, s8.2.2.1, s8.2.2.2.1, s8.2.2.2.2.1, s8.2.2.2.2.2.1, s8.2.2.2.2.2.2.1, s8.2.2.2.2.2.2.2.1, ()) h26) (
pLeave d5 h9 fun h27 =>
some ((.tup []), h27))) fun j10 =>
pWant v7 true (
pCall c (.fn 22 [] []) [s3.2.2.1] h4 fun v28 h29 =>
j10 (v28, s3.2.2.1, v7, v7, s3.1, s3.1, s3.2.1, s3.2.2.1, ()) h29) (
j10 (.undef, .undef, v7, v7, s3.1, s3.1, s3.2.1, s3.2.2.1, ()) h4)) (v1, a2, a0, ()) h2 []
theorem S20_eq (c : CV) (a0 a1 a2 : AV) (h : AH) : enterK Try.prog NN P20 c 20 [a0, a1, a2] h = S20 c a0 a1 a2 h := by kernel_rfl
def W20 (c : CV) (l : List AV) (h : AH) : R := match l with | [a0, a1, a2] => S20 c a0 a1 a2 h | _ => none
theorem W20_ok : WOk Try.prog 20 W20 := by
  intro c l h r e
  unfold W20 at e
  split at e
  · exact ⟨P20, by rw [S20_eq]; exact e⟩
  · cases e
/- (*quietus/draft.Draft).Place -/
def P21 : Pl := .z
def S21 (c : CV) (a0 a1 : AV) (h : AH) : R :=
pCall c (.fn 23 [] []) [a0, a1] h fun v0 h1 =>
pCall c (.fn 37 [] []) [a0, v0] h1 fun v2 h3 =>
some (v2, h3)
theorem S21_eq (c : CV) (a0 a1 : AV) (h : AH) : enterK Try.prog NN P21 c 21 [a0, a1] h = S21 c a0 a1 h := by kernel_rfl
def W21 (c : CV) (l : List AV) (h : AH) : R := match l with | [a0, a1] => S21 c a0 a1 h | _ => none
theorem W21_ok : WOk Try.prog 21 W21 := by
  intro c l h r e
  unfold W21 at e
  split at e
  · exact ⟨P21, by rw [S21_eq]; exact e⟩
  · cases e
/- (*quietus/draft.Draft).Step -/
def P22 : Pl := (.n none .z (.n none .z (.n (some [2, 0]) .z .z)))
def S22 (c : CV) (a0 : AV) (h : AH) : R :=
pNil a0 fun v0 =>
pFieldA v0 2 fun v1 =>
pLoad1 h v1 fun v2 =>
pInt .add v2 (.int .i64 (.ofNat 1)) fun v3 =>
pNil a0 fun v4 =>
pFieldA v4 2 fun v5 =>
pStore h v5 v3 1 fun h6 =>
joinC (α := AV × AV × Unit → AH → List Nat → R) (fun s7 h8 d9 =>
pCall c (.fn 15 [] []) [s7.2.1] h8 fun v11 h12 =>
pLeave d9 h12 fun h13 =>
some (v11, h13)) fun j10 =>
pNil a0 fun v14 =>
pFieldA v14 2 fun v15 =>
pLoad1 h6 v15 fun v16 =>
pInt .gtr v16 (.int .i64 (.ofNat 2048)) fun v17 =>
pCond v17 (
pCall c (.fn 35 [] []) [a0, (.int .i64 (.ofNat 2))] h6 fun _ h19 =>
j10 ((.bool false), a0, ()) h19 []) (
j10 ((.bool false), a0, ()) h6 [])
theorem S22_eq (c : CV) (a0 : AV) (h : AH) : enterK Try.prog NN P22 c 22 [a0] h = S22 c a0 h := by kernel_rfl
def W22 (c : CV) (l : List AV) (h : AH) : R := match l with | [a0] => S22 c a0 h | _ => none
theorem W22_ok : WOk Try.prog 22 W22 := by
  intro c l h r e
  unfold W22 at e
  split at e
  · exact ⟨P22, by rw [S22_eq]; exact e⟩
  · cases e
/- (*quietus/draft.Draft).Read -/
def P23 : Pl := .z
def S23 (c : CV) (a0 a1 : AV) (h : AH) : R :=
pCall c (.fn 15 [] []) [a0] h fun v0 h1 =>
pUn .not v0 fun v2 =>
pCond v2 (
some ((.int .u64 (.ofNat 0)), h1)) (
pNil a0 fun v3 =>
pFieldA v3 0 fun v4 =>
pLoad1 h1 v4 fun v5 =>
pCall c (.fn 28 [] []) [v5, a1] h1 fun v6 h7 =>
pExtract v6 0 fun v8 =>
pExtract v6 1 fun v9 =>
pCall c (.fn 35 [] []) [a0, v9] h7 fun _ h11 =>
some (v8, h11))
theorem S23_eq (c : CV) (a0 a1 : AV) (h : AH) : enterK Try.prog NN P23 c 23 [a0, a1] h = S23 c a0 a1 h := by kernel_rfl
def W23 (c : CV) (l : List AV) (h : AH) : R := match l with | [a0, a1] => S23 c a0 a1 h | _ => none
theorem W23_ok : WOk Try.prog 23 W23 := by
  intro c l h r e
  unfold W23 at e
  split at e
  · exact ⟨P23, by rw [S23_eq]; exact e⟩
  · cases e
/- quietus/list.Has$1 -/
def P24 : Pl := .z
def S24 (c : CV) (a0 a1 a2 a3 : AV) (h : AH) : R :=
pLoad1 h a1 fun v0 =>
pLoad1 h a2 fun v1 =>
pCall c (.fn 14 [] []) [a0, v0, v1] h fun v2 h3 =>
pExtract v2 0 fun _ =>
pExtract v2 1 fun v5 =>
pLoad1 h3 a2 fun v6 =>
pCall c (.fn 16 [] []) [a0, v5, v6] h3 fun v7 h8 =>
pStore h8 a3 v7 1 fun h9 =>
some ((.tup []), h9)
theorem S24_eq (c : CV) (a0 a1 a2 a3 : AV) (h : AH) : enterK Try.prog NN P24 c 24 [a0, a1, a2, a3] h = S24 c a0 a1 a2 a3 h := by kernel_rfl
def W24 (c : CV) (l : List AV) (h : AH) : R := match l with | [a0, a1, a2, a3] => S24 c a0 a1 a2 a3 h | _ => none
theorem W24_ok : WOk Try.prog 24 W24 := by
  intro c l h r e
  unfold W24 at e
  split at e
  · exact ⟨P24, by rw [S24_eq]; exact e⟩
  · cases e
/- quietus/levels.New -/
def P25 : Pl := .z
def S25 (c : CV) (a0 : AV) (h : AH) : R :=
pMM false [a0, (.int .i64 (.ofNat 96))] fun v0 =>
pMM true [(.int .i64 (.ofNat 0)), v0] fun v1 =>
pCall c (.fn 38 [] []) [] h fun v2 h3 =>
pBuildS h3 69 [.nilp] 1 [(0, 1, v2)] fun v4 h5 =>
pBuild [(.int .i64 (.ofNat 0)), .nils] [(0, 1, v1), (1, 1, v4)] fun v6 =>
pBox h5 73 v6 fun v7 h8 =>
some (v7, h8)
theorem S25_eq (c : CV) (a0 : AV) (h : AH) : enterK Try.prog NN P25 c 25 [a0] h = S25 c a0 h := by kernel_rfl
def W25 (c : CV) (l : List AV) (h : AH) : R := match l with | [a0] => S25 c a0 h | _ => none
theorem W25_ok : WOk Try.prog 25 W25 := by
  intro c l h r e
  unfold W25 at e
  split at e
  · exact ⟨P25, by rw [S25_eq]; exact e⟩
  · cases e
/- (*quietus/view.View).is -/
def P26 : Pl := (.n none .z (.n none (.r [[14, 7, 4]]) .z))
def S26 (_ : CV) (a0 a1 : AV) (h : AH) : R :=
pInt .geq a1 (.int .i64 (.ofNat 1)) fun v0 =>
joinC (α := AV × AV × AV × Unit → AH → R) (fun s1 h2 =>
pPick s1.2.1 s1.1 (.bool false) fun v4 =>
some (v4, h2)) fun j3 =>
pWant v0 true (
pNil a0 fun v5 =>
pFieldA v5 0 fun v6 =>
pLoad1 h v6 fun v7 =>
pLenS v7 fun v8 =>
pInt .lss a1 v8 fun v9 =>
j3 (v9, v0, (.bool false), ()) h) (
j3 (.undef, v0, (.bool false), ()) h)
theorem S26_eq (c : CV) (a0 a1 : AV) (h : AH) : enterK Try.prog NN P26 c 26 [a0, a1] h = S26 c a0 a1 h := by kernel_rfl
def W26 (c : CV) (l : List AV) (h : AH) : R := match l with | [a0, a1] => S26 c a0 a1 h | _ => none
theorem W26_ok : WOk Try.prog 26 W26 := by
  intro c l h r e
  unfold W26 at e
  split at e
  · exact ⟨P26, by rw [S26_eq]; exact e⟩
  · cases e
/- quietus/draft.of -/
def P27 : Pl := (.n none .z (.n none .z (.n none (.n none .z (.n none (.n (some [14, 13, 12, 3, 2, 0]) .z .z) .z)) (.n none (.n none .z (.n none (.n (some [28, 27, 26, 3, 2]) .z .z) .z)) .z))))
def S27 (c : CV) (a0 : AV) (h : AH) : R :=
pCall c (.fn 10 [] []) [a0] h fun v0 h1 =>
pCall c (.fn 9 [] []) [v0, (.int .i64 (.ofNat 96))] h1 fun v2 h3 =>
pCall c (.fn 31 [] []) [a0] h3 fun v4 h5 =>
pLenS v4 fun v6 =>
loopC (σ := AV × AV × AV × AV × AV × AV × Unit) NN (fun i10 s7 h8 d9 =>
pInt .lss s7.1 s7.2.1 fun v11 =>
pCond v11 (
pIdxS s7.2.2.1 s7.1 2 fun v12 =>
pLoadN h8 v12 2 fun v13 =>
pBox h8 75 (.agg [(.int .i64 (.ofNat 0)), (.int .u64 (.ofNat 0))]) fun v14 h15 =>
pStore h15 v14 v13 2 fun h16 =>
pFieldA v14 0 fun v17 =>
pLoad1 h16 v17 fun v18 =>
pFieldA v14 1 fun v19 =>
pLoad1 h16 v19 fun v20 =>
pCall c (.fn 11 [] []) [s7.2.2.2.1, v18, v20] h16 fun _ h22 =>
pInt .add s7.1 (.int .i64 (.ofNat 1)) fun v23 =>
i10 (v23, s7.2.1, s7.2.2.1, s7.2.2.2.1, s7.2.2.2.2.1, s7.2.2.2.2.2.1, ()) h22 d9) (
pCall c (.fn 39 [] []) [s7.2.2.2.2.2.1] h8 fun v24 h25 =>
pLenS v24 fun v26 =>
loopC (σ := AV × AV × AV × AV × AV × Unit) NN (fun i30 s27 h28 d29 =>
pInt .lss s27.1 s27.2.1 fun v31 =>
pCond v31 (
pIdxS s27.2.2.1 s27.1 2 fun v32 =>
pLoadN h28 v32 2 fun v33 =>
pBox h28 75 (.agg [(.int .i64 (.ofNat 0)), (.int .u64 (.ofNat 0))]) fun v34 h35 =>
pStore h35 v34 v33 2 fun h36 =>
pFieldA v34 0 fun v37 =>
pLoad1 h36 v37 fun v38 =>
pFieldA v34 1 fun v39 =>
pLoad1 h36 v39 fun v40 =>
pCall c (.fn 11 [] []) [s27.2.2.2.1, v38, v40] h36 fun _ h42 =>
pInt .add s27.1 (.int .i64 (.ofNat 1)) fun v43 =>
i30 (v43, s27.2.1, s27.2.2.1, s27.2.2.2.1, s27.2.2.2.2.1, ()) h42 d29) (
pLeave d29 h28 fun h44 =>
some (s27.2.2.2.1, h44))) ((.int .i64 (.ofNat 0)), v26, v24, s7.2.2.2.1, s7.2.2.2.2.1, ()) h25 d9)) ((.int .i64 (.ofNat 0)), v6, v4, v2, .nilp, a0, ()) h5 []
theorem S27_eq (c : CV) (a0 : AV) (h : AH) : enterK Try.prog NN P27 c 27 [a0] h = S27 c a0 h := by kernel_rfl
def W27 (c : CV) (l : List AV) (h : AH) : R := match l with | [a0] => S27 c a0 h | _ => none
theorem W27_ok : WOk Try.prog 27 W27 := by
  intro c l h r e
  unfold W27 at e
  split at e
  · exact ⟨P27, by rw [S27_eq]; exact e⟩
  · cases e
/- (*quietus/view.View).Read -/
def P28 : Pl := .z
def S28 (c : CV) (a0 a1 : AV) (h : AH) : R :=
pCall c (.fn 26 [] []) [a0, a1] h fun v0 h1 =>
pUn .not v0 fun v2 =>
pCond v2 (
some ((.tup [(.int .u64 (.ofNat 0)), (.int .i64 (.ofNat 2))]), h1)) (
pNil a0 fun v3 =>
pFieldA v3 2 fun v4 =>
pLoad1 h1 v4 fun v5 =>
pCall c (.fn 40 [] []) [v5, a1] h1 fun v6 h7 =>
pExtract v6 0 fun v8 =>
pExtract v6 1 fun v9 =>
pCond v9 (
some ((.tup [v8, (.int .i64 (.ofNat 0))]), h7)) (
pNil a0 fun v10 =>
pFieldA v10 0 fun v11 =>
pLoad1 h7 v11 fun v12 =>
pIdxS v12 a1 2 fun v13 =>
pLoadN h7 v13 2 fun v14 =>
pBox h7 54 (.agg [(.int .u64 (.ofNat 0)), (.bool false)]) fun v15 h16 =>
pStore h16 v15 v14 2 fun h17 =>
pFieldA v15 1 fun v18 =>
pLoad1 h17 v18 fun v19 =>
pCond v19 (
pFieldA v15 0 fun v20 =>
pLoad1 h17 v20 fun v21 =>
some ((.tup [v21, (.int .i64 (.ofNat 0))]), h17)) (
pNil a0 fun v22 =>
pFieldA v22 3 fun v23 =>
pStore h17 v23 a1 1 fun h24 =>
some ((.tup [(.int .u64 (.ofNat 0)), (.int .i64 (.ofNat 11))]), h24))))
theorem S28_eq (c : CV) (a0 a1 : AV) (h : AH) : enterK Try.prog NN P28 c 28 [a0, a1] h = S28 c a0 a1 h := by kernel_rfl
def W28 (c : CV) (l : List AV) (h : AH) : R := match l with | [a0, a1] => S28 c a0 a1 h | _ => none
theorem W28_ok : WOk Try.prog 28 W28 := by
  intro c l h r e
  unfold W28 at e
  split at e
  · exact ⟨P28, by rw [S28_eq]; exact e⟩
  · cases e
/- (*quietus/view.View).Need -/
def P29 : Pl := .z
def S29 (_ : CV) (a0 : AV) (h : AH) : R :=
pNil a0 fun v0 =>
pFieldA v0 3 fun v1 =>
pLoad1 h v1 fun v2 =>
some (v2, h)
theorem S29_eq (c : CV) (a0 : AV) (h : AH) : enterK Try.prog NN P29 c 29 [a0] h = S29 c a0 h := by kernel_rfl
def W29 (c : CV) (l : List AV) (h : AH) : R := match l with | [a0] => S29 c a0 h | _ => none
theorem W29_ok : WOk Try.prog 29 W29 := by
  intro c l h r e
  unfold W29 at e
  split at e
  · exact ⟨P29, by rw [S29_eq]; exact e⟩
  · cases e
/- (*quietus/view.View).Take -/
def P30 : Pl := (.n none .z (.n none (.n none .z (.n none (.n (some [9, 8, 7, 4, 1, 0]) .z .z) .z)) .z))
def S30 (c : CV) (a0 a1 : AV) (h : AH) : R :=
pLenS a1 fun v0 =>
loopC (σ := AV × AV × AV × AV × AV × AV × Unit) NN (fun i4 s1 h2 d3 =>
pInt .lss s1.1 s1.2.1 fun v5 =>
pCond v5 (
pIdxS s1.2.2.1 s1.1 2 fun v6 =>
pLoadN h2 v6 2 fun v7 =>
pBox h2 75 (.agg [(.int .i64 (.ofNat 0)), (.int .u64 (.ofNat 0))]) fun v8 h9 =>
pStore h9 v8 v7 2 fun h10 =>
pFieldA v8 0 fun v11 =>
pLoad1 h10 v11 fun v12 =>
pCall c (.fn 26 [] []) [s1.2.2.2.2.2.1, v12] h10 fun v13 h14 =>
pUn .not v13 fun v15 =>
pCond v15 (
pLeave d3 h14 fun h16 =>
some ((.int .i64 (.ofNat 2)), h16)) (
pInt .add s1.1 (.int .i64 (.ofNat 1)) fun v17 =>
i4 (v17, s1.2.1, s1.2.2.1, s1.2.2.2.1, s1.2.2.2.2.1, s1.2.2.2.2.2.1, ()) h14 d3)) (
pNil s1.2.2.2.2.2.1 fun v18 =>
pFieldA v18 2 fun v19 =>
pLoad1 h2 v19 fun v20 =>
pCall c (.fn 41 [] []) [v20, s1.2.2.2.2.1] h2 fun v21 h22 =>
pLeave d3 h22 fun h23 =>
some (v21, h23))) ((.int .i64 (.ofNat 0)), v0, a1, (.int .i64 (.ofNat 0)), a1, a0, ()) h []
theorem S30_eq (c : CV) (a0 a1 : AV) (h : AH) : enterK Try.prog NN P30 c 30 [a0, a1] h = S30 c a0 a1 h := by kernel_rfl
def W30 (c : CV) (l : List AV) (h : AH) : R := match l with | [a0, a1] => S30 c a0 a1 h | _ => none
theorem W30_ok : WOk Try.prog 30 W30 := by
  intro c l h r e
  unfold W30 at e
  split at e
  · exact ⟨P30, by rw [S30_eq]; exact e⟩
  · cases e
/- (*quietus/view.View).Cells -/
def P31 : Pl := .z
def S31 (c : CV) (a0 : AV) (h : AH) : R :=
pNil a0 fun v0 =>
pFieldA v0 2 fun v1 =>
pLoad1 h v1 fun v2 =>
pCall c (.fn 42 [] []) [v2] h fun v3 h4 =>
some (v3, h4)
theorem S31_eq (c : CV) (a0 : AV) (h : AH) : enterK Try.prog NN P31 c 31 [a0] h = S31 c a0 h := by kernel_rfl
def W31 (c : CV) (l : List AV) (h : AH) : R := match l with | [a0] => S31 c a0 h | _ => none
theorem W31_ok : WOk Try.prog 31 W31 := by
  intro c l h r e
  unfold W31 at e
  split at e
  · exact ⟨P31, by rw [S31_eq]; exact e⟩
  · cases e
/- (*quietus/view.View).Frees -/
def P32 : Pl := .z
def S32 (c : CV) (a0 : AV) (h : AH) : R :=
pNil a0 fun v0 =>
pFieldA v0 2 fun v1 =>
pLoad1 h v1 fun v2 =>
pCall c (.fn 43 [] []) [v2] h fun v3 h4 =>
some (v3, h4)
theorem S32_eq (c : CV) (a0 : AV) (h : AH) : enterK Try.prog NN P32 c 32 [a0] h = S32 c a0 h := by kernel_rfl
def W32 (c : CV) (l : List AV) (h : AH) : R := match l with | [a0] => S32 c a0 h | _ => none
theorem W32_ok : WOk Try.prog 32 W32 := by
  intro c l h r e
  unfold W32 at e
  split at e
  · exact ⟨P32, by rw [S32_eq]; exact e⟩
  · cases e
/- (*quietus/view.View).Free -/
def P33 : Pl := .z
def S33 (c : CV) (a0 a1 : AV) (h : AH) : R :=
pNil a0 fun v0 =>
pFieldA v0 2 fun v1 =>
pLoad1 h v1 fun v2 =>
pCall c (.fn 44 [] []) [v2, a1] h fun _ h4 =>
some ((.tup []), h4)
theorem S33_eq (c : CV) (a0 a1 : AV) (h : AH) : enterK Try.prog NN P33 c 33 [a0, a1] h = S33 c a0 a1 h := by kernel_rfl
def W33 (c : CV) (l : List AV) (h : AH) : R := match l with | [a0, a1] => S33 c a0 a1 h | _ => none
theorem W33_ok : WOk Try.prog 33 W33 := by
  intro c l h r e
  unfold W33 at e
  split at e
  · exact ⟨P33, by rw [S33_eq]; exact e⟩
  · cases e
/- quietus/arena.Alloc -/
def P34 : Pl := .z
def S34 (c : CV) (a0 a1 : AV) (h : AH) : R :=
pCall c (.fn 45 [] []) [a1] h fun v0 h1 =>
pInt .eql v0 (.int .i64 (.ofNat 0)) fun v2 =>
pCond v2 (
some ((.tup [(.int .i64 (.ofNat 0)), (.int .i64 (.ofNat 3))]), h1)) (
pCall c (.fn 46 [] []) [v0] h1 fun v3 h4 =>
pCall c (.fn 28 [] []) [a0, v3] h4 fun v5 h6 =>
pExtract v5 0 fun v7 =>
pExtract v5 1 fun v8 =>
pInt .neq v8 (.int .i64 (.ofNat 0)) fun v9 =>
pCond v9 (
some ((.tup [(.int .i64 (.ofNat 0)), v8]), h6)) (
pInt .neq v7 (.int .u64 (.ofNat 0)) fun v10 =>
pCond v10 (
pCall c (.fn 47 [] []) [a0, v0, v7] h6 fun v11 h12 =>
pExtract v11 0 fun v13 =>
pExtract v11 1 fun v14 =>
some ((.tup [v13, v14]), h12)) (
pCall c (.fn 48 [] []) [a0, v0] h6 fun v15 h16 =>
pExtract v15 0 fun v17 =>
pExtract v15 1 fun v18 =>
some ((.tup [v17, v18]), h16))))
theorem S34_eq (c : CV) (a0 a1 : AV) (h : AH) : enterK Try.prog NN P34 c 34 [a0, a1] h = S34 c a0 a1 h := by kernel_rfl
def W34 (c : CV) (l : List AV) (h : AH) : R := match l with | [a0, a1] => S34 c a0 a1 h | _ => none
theorem W34_ok : WOk Try.prog 34 W34 := by
  intro c l h r e
  unfold W34 at e
  split at e
  · exact ⟨P34, by rw [S34_eq]; exact e⟩
  · cases e
/- (*quietus/draft.Draft).Fail -/
def P35 : Pl := .z
def S35 (c : CV) (a0 a1 : AV) (h : AH) : R :=
pCall c (.fn 15 [] []) [a0] h fun v0 h1 =>
pCond v0 (
pNil a0 fun v2 =>
pFieldA v2 1 fun v3 =>
pStore h1 v3 a1 1 fun h4 =>
some ((.tup []), h4)) (
some ((.tup []), h1))
theorem S35_eq (c : CV) (a0 a1 : AV) (h : AH) : enterK Try.prog NN P35 c 35 [a0, a1] h = S35 c a0 a1 h := by kernel_rfl
def W35 (c : CV) (l : List AV) (h : AH) : R := match l with | [a0, a1] => S35 c a0 a1 h | _ => none
theorem W35_ok : WOk Try.prog 35 W35 := by
  intro c l h r e
  unfold W35 at e
  split at e
  · exact ⟨P35, by rw [S35_eq]; exact e⟩
  · cases e
/- (*quietus/view.View).Write -/
def P36 : Pl := .z
def S36 (c : CV) (a0 a1 a2 : AV) (h : AH) : R :=
pCall c (.fn 26 [] []) [a0, a1] h fun v0 h1 =>
pUn .not v0 fun v2 =>
pCond v2 (
some ((.int .i64 (.ofNat 2)), h1)) (
pNil a0 fun v3 =>
pFieldA v3 2 fun v4 =>
pLoad1 h1 v4 fun v5 =>
pCall c (.fn 49 [] []) [v5, a1, a2] h1 fun v6 h7 =>
some (v6, h7))
theorem S36_eq (c : CV) (a0 a1 a2 : AV) (h : AH) : enterK Try.prog NN P36 c 36 [a0, a1, a2] h = S36 c a0 a1 a2 h := by kernel_rfl
def W36 (c : CV) (l : List AV) (h : AH) : R := match l with | [a0, a1, a2] => S36 c a0 a1 a2 h | _ => none
theorem W36_ok : WOk Try.prog 36 W36 := by
  intro c l h r e
  unfold W36 at e
  split at e
  · exact ⟨P36, by rw [S36_eq]; exact e⟩
  · cases e
/- (*quietus/draft.Draft).Name -/
def P37 : Pl := .z
def S37 (c : CV) (a0 a1 : AV) (h : AH) : R :=
pInt .geq a1 (.int .u64 (.ofNat 2147483648)) fun v0 =>
pCond v0 (
pCall c (.fn 35 [] []) [a0, (.int .i64 (.ofNat 2))] h fun _ h2 =>
some ((.int .i64 (.ofNat 0)), h2)) (
pConvI .i64 a1 fun v3 =>
some (v3, h))
theorem S37_eq (c : CV) (a0 a1 : AV) (h : AH) : enterK Try.prog NN P37 c 37 [a0, a1] h = S37 c a0 a1 h := by kernel_rfl
def W37 (c : CV) (l : List AV) (h : AH) : R := match l with | [a0, a1] => S37 c a0 a1 h | _ => none
theorem W37_ok : WOk Try.prog 37 W37 := by
  intro c l h r e
  unfold W37 at e
  split at e
  · exact ⟨P37, by rw [S37_eq]; exact e⟩
  · cases e
/- quietus/levels.fresh -/
def P38 : Pl := .z
def S38 (c : CV) (h : AH) : R :=
pCall c (.fn 50 [] []) [(.int .i64 (.ofNat 96))] h fun v0 h1 =>
pBuild [.nilp, .nils] [(0, 1, v0)] fun v2 =>
pBox h1 82 v2 fun v3 h4 =>
some (v3, h4)
theorem S38_eq (c : CV) (h : AH) : enterK Try.prog NN P38 c 38 [] h = S38 c h := by kernel_rfl
def W38 (c : CV) (l : List AV) (h : AH) : R := match l with | [] => S38 c h | _ => none
theorem W38_ok : WOk Try.prog 38 W38 := by
  intro c l h r e
  unfold W38 at e
  split at e
  · exact ⟨P38, by rw [S38_eq]; exact e⟩
  · cases e
/- (*quietus/view.View).Known -/
def P39 : Pl := (.n none .z (.n none .z (.n none (.n none .z (.n none (.n (some [17, 16, 15, 3, 2, 0]) .z .z) .z)) .z)))
def S39 (_ : CV) (a0 : AV) (h : AH) : R :=
pNil a0 fun v0 =>
pFieldA v0 1 fun v1 =>
pLoad1 h v1 fun v2 =>
pLenS v2 fun v3 =>
pMake h 75 [(.int .i64 (.ofNat 0)), (.int .u64 (.ofNat 0))] (.int .i64 (.ofNat 0)) v3 fun v4 h5 =>
pNil a0 fun v6 =>
pFieldA v6 1 fun v7 =>
pLoad1 h5 v7 fun v8 =>
pLenS v8 fun v9 =>
loopC (σ := AV × AV × AV × AV × AV × AV × Unit) NN (fun i13 s10 h11 d12 =>
pInt .lss s10.1 s10.2.1 fun v14 =>
pCond v14 (
pIdxS s10.2.2.1 s10.1 1 fun v15 =>
pLoad1 h11 v15 fun v16 =>
pNil s10.2.2.2.2.2.1 fun v17 =>
pFieldA v17 0 fun v18 =>
pLoad1 h11 v18 fun v19 =>
pIdxS v19 v16 2 fun v20 =>
pFieldA v20 0 fun v21 =>
pLoad1 h11 v21 fun v22 =>
pBuild [(.int .i64 (.ofNat 0)), (.int .u64 (.ofNat 0))] [(0, 1, v16), (1, 1, v22)] fun v23 =>
pBuildS h11 75 [(.int .i64 (.ofNat 0)), (.int .u64 (.ofNat 0))] 1 [(0, 2, v23)] fun v24 h25 =>
pAppend h25 75 2 s10.2.2.2.1 v24 fun v26 h27 =>
pInt .add s10.1 (.int .i64 (.ofNat 1)) fun v28 =>
i13 (v28, s10.2.1, s10.2.2.1, v26, s10.2.2.2.2.1, s10.2.2.2.2.2.1, ()) h27 d12) (
pLeave d12 h11 fun h29 =>
some (s10.2.2.2.1, h29))) ((.int .i64 (.ofNat 0)), v9, v8, v4, .nils, a0, ()) h5 []
theorem S39_eq (c : CV) (a0 : AV) (h : AH) : enterK Try.prog NN P39 c 39 [a0] h = S39 c a0 h := by kernel_rfl
def W39 (c : CV) (l : List AV) (h : AH) : R := match l with | [a0] => S39 c a0 h | _ => none
theorem W39_ok : WOk Try.prog 39 W39 := by
  intro c l h r e
  unfold W39 at e
  split at e
  · exact ⟨P39, by rw [S39_eq]; exact e⟩
  · cases e
/- (*quietus/levels.Levels).Get -/
def P40 : Pl := (.n none .z (.n none (.n none .z (.n none (.n (some [5, 4, 3]) .z .z) .z)) .z))
def S40 (c : CV) (a0 a1 : AV) (h : AH) : R :=
pBox h 3 a1 fun v0 h1 =>
pBox h1 29 (.int .u64 (.ofNat 0)) fun v2 h3 =>
pBox h3 4 (.bool false) fun v4 h5 =>
pNil a0 fun v6 =>
pFieldA v6 1 fun v7 =>
pLoad1 h5 v7 fun v8 =>
pCall c (.fn 51 [] []) [v8] h5 fun v9 h10 =>
pCallF c v9 [.yield (h10.new .dfd).nx] ((h10.new .dfd).new (.loop .ready none 40 [1, 0, 1, 0] [5, 4, 3] [v4, v2, v0] h10.nx)) fun _ h11 =>
pEndLoop h11 (h10.new .dfd).nx fun p13 h12 =>
pNone p13 (
pStore h12 v2 (.int .u64 (.ofNat 0)) 1 fun h14 =>
pStore h14 v4 (.bool false) 1 fun h15 =>
pLeave (h10.nx :: []) h15 fun h16 =>
pLoad1 h16 v2 fun v17 =>
pLoad1 h16 v4 fun v18 =>
some ((.tup [v17, v18]), h16)) <|
pIs p13 .ret (
pLeave (h10.nx :: []) h12 fun h19 =>
pLoad1 h19 v2 fun v20 =>
pLoad1 h19 v4 fun v21 =>
some ((.tup [v20, v21]), h19)) <|
none
theorem S40_eq (c : CV) (a0 a1 : AV) (h : AH) : enterK Try.prog NN P40 c 40 [a0, a1] h = S40 c a0 a1 h := by kernel_rfl
def W40 (c : CV) (l : List AV) (h : AH) : R := match l with | [a0, a1] => S40 c a0 a1 h | _ => none
theorem W40_ok : WOk Try.prog 40 W40 := by
  intro c l h r e
  unfold W40 at e
  split at e
  · exact ⟨P40, by rw [S40_eq]; exact e⟩
  · cases e
/- (*quietus/levels.Levels).Take -/
def P41 : Pl := (.n none .z (.n none .z (.n none .z (.n none (.n none .z (.n none (.n (some [20, 19, 18, 5, 4, 0]) .z .z) .z)) .z))))
def S41 (c : CV) (a0 a1 : AV) (h : AH) : R :=
pCall c (.fn 50 [] []) [(.int .i64 (.ofNat 96))] h fun v0 h1 =>
pCall c (.fn 54 [] []) [a0] h1 fun v2 h3 =>
pNil v2 fun v4 =>
pFieldA v4 0 fun v5 =>
pLoad1 h3 v5 fun v6 =>
pCall c (.fn 55 [] []) [v6] h3 fun v7 h8 =>
pCall c (.fn 53 [] []) [v0, v7] h8 fun _ h10 =>
pLenS a1 fun v11 =>
loopC (σ := AV × AV × AV × AV × AV × AV × Unit) NN (fun i15 s12 h13 d14 =>
pInt .lss s12.1 s12.2.1 fun v16 =>
pCond v16 (
pIdxS s12.2.2.1 s12.1 2 fun v17 =>
pLoadN h13 v17 2 fun v18 =>
pBox h13 75 (.agg [(.int .i64 (.ofNat 0)), (.int .u64 (.ofNat 0))]) fun v19 h20 =>
pStore h20 v19 v18 2 fun h21 =>
pFieldA v19 0 fun v22 =>
pLoad1 h21 v22 fun v23 =>
pFieldA v19 1 fun v24 =>
pLoad1 h21 v24 fun v25 =>
pCall c (.fn 49 [] []) [s12.2.2.2.2.2.1, v23, v25] h21 fun v26 h27 =>
pInt .neq v26 (.int .i64 (.ofNat 0)) fun v28 =>
pCond v28 (
pCall c (.fn 54 [] []) [s12.2.2.2.2.2.1] h27 fun v29 h30 =>
pNil v29 fun v31 =>
pFieldA v31 0 fun v32 =>
pStore h30 v32 s12.2.2.2.1 1 fun h33 =>
pLeave d14 h33 fun h34 =>
some (v26, h34)) (
pInt .add s12.1 (.int .i64 (.ofNat 1)) fun v35 =>
i15 (v35, s12.2.1, s12.2.2.1, s12.2.2.2.1, s12.2.2.2.2.1, s12.2.2.2.2.2.1, ()) h27 d14)) (
pLeave d14 h13 fun h36 =>
some ((.int .i64 (.ofNat 0)), h36))) ((.int .i64 (.ofNat 0)), v11, a1, v0, (.int .i64 (.ofNat 0)), a0, ()) h10 []
theorem S41_eq (c : CV) (a0 a1 : AV) (h : AH) : enterK Try.prog NN P41 c 41 [a0, a1] h = S41 c a0 a1 h := by kernel_rfl
def W41 (c : CV) (l : List AV) (h : AH) : R := match l with | [a0, a1] => S41 c a0 a1 h | _ => none
theorem W41_ok : WOk Try.prog 41 W41 := by
  intro c l h r e
  unfold W41 at e
  split at e
  · exact ⟨P41, by rw [S41_eq]; exact e⟩
  · cases e
/- (*quietus/levels.Levels).Cells -/
def P42 : Pl := (.n none .z (.n none .z (.n none (.n none .z (.n none (.n (some [3]) .z .z) .z)) .z)))
def S42 (c : CV) (a0 : AV) (h : AH) : R :=
pBox h 61 .nils fun v0 h1 =>
pNil a0 fun v2 =>
pFieldA v2 1 fun v3 =>
pLoad1 h1 v3 fun v4 =>
pCall c (.fn 51 [] []) [v4] h1 fun v5 h6 =>
pCallF c v5 [.yield (h6.new .dfd).nx] ((h6.new .dfd).new (.loop .ready none 42 [1, 1, 0, 1, 0] [3] [v0] h6.nx)) fun _ h7 =>
pEndLoop h7 (h6.new .dfd).nx fun p9 h8 =>
pNone p9 (
pLoad1 h8 v0 fun v10 =>
pLeave (h6.nx :: []) h8 fun h11 =>
some (v10, h11)) <|
none
theorem S42_eq (c : CV) (a0 : AV) (h : AH) : enterK Try.prog NN P42 c 42 [a0] h = S42 c a0 h := by kernel_rfl
def W42 (c : CV) (l : List AV) (h : AH) : R := match l with | [a0] => S42 c a0 h | _ => none
theorem W42_ok : WOk Try.prog 42 W42 := by
  intro c l h r e
  unfold W42 at e
  split at e
  · exact ⟨P42, by rw [S42_eq]; exact e⟩
  · cases e
/- (*quietus/levels.Levels).Frees -/
def P43 : Pl := (.n none .z (.n none .z (.n none (.n none .z (.n none (.n (some [11, 10, 9, 3, 2]) .z .z) .z)) .z)))
def S43 (_ : CV) (a0 : AV) (h : AH) : R :=
pNil a0 fun v0 =>
pFieldA v0 1 fun v1 =>
pLoad1 h v1 fun v2 =>
pLenS v2 fun v3 =>
loopC (σ := AV × AV × AV × AV × AV × Unit) NN (fun i7 s4 h5 d6 =>
pInt .lss s4.1 s4.2.1 fun v8 =>
pCond v8 (
pIdxS s4.2.2.1 s4.1 1 fun v9 =>
pLoad1 h5 v9 fun v10 =>
pNil v10 fun v11 =>
pFieldA v11 1 fun v12 =>
pLoad1 h5 v12 fun v13 =>
pAppend h5 3 1 s4.2.2.2.1 v13 fun v14 h15 =>
pInt .add s4.1 (.int .i64 (.ofNat 1)) fun v16 =>
i7 (v16, s4.2.1, s4.2.2.1, v14, s4.2.2.2.2.1, ()) h15 d6) (
pLeave d6 h5 fun h17 =>
some (s4.2.2.2.1, h17))) ((.int .i64 (.ofNat 0)), v3, v2, .nils, .nils, ()) h []
theorem S43_eq (c : CV) (a0 : AV) (h : AH) : enterK Try.prog NN P43 c 43 [a0] h = S43 c a0 h := by kernel_rfl
def W43 (c : CV) (l : List AV) (h : AH) : R := match l with | [a0] => S43 c a0 h | _ => none
theorem W43_ok : WOk Try.prog 43 W43 := by
  intro c l h r e
  unfold W43 at e
  split at e
  · exact ⟨P43, by rw [S43_eq]; exact e⟩
  · cases e
/- (*quietus/levels.Levels).Free -/
def P44 : Pl := .z
def S44 (c : CV) (a0 a1 : AV) (h : AH) : R :=
pCall c (.fn 54 [] []) [a0] h fun v0 h1 =>
pNil v0 fun v2 =>
pFieldA v2 1 fun v3 =>
pLoad1 h1 v3 fun v4 =>
pBuildS h1 3 [(.int .i64 (.ofNat 0))] 1 [(0, 1, a1)] fun v5 h6 =>
pAppend h6 3 1 v4 v5 fun v7 h8 =>
pNil v0 fun v9 =>
pFieldA v9 1 fun v10 =>
pStore h8 v10 v7 1 fun h11 =>
some ((.tup []), h11)
theorem S44_eq (c : CV) (a0 a1 : AV) (h : AH) : enterK Try.prog NN P44 c 44 [a0, a1] h = S44 c a0 a1 h := by kernel_rfl
def W44 (c : CV) (l : List AV) (h : AH) : R := match l with | [a0, a1] => S44 c a0 a1 h | _ => none
theorem W44_ok : WOk Try.prog 44 W44 := by
  intro c l h r e
  unfold W44 at e
  split at e
  · exact ⟨P44, by rw [S44_eq]; exact e⟩
  · cases e
/- quietus/arena.Class -/
def P45 : Pl := (.n none .z (.n none .z (.n none (.n none .z (.n none (.n (some [3, 2, 0]) .z .z) .z)) .z)))
def S45 (c : CV) (a0 : AV) (h : AH) : R :=
pInt .lss a0 (.int .i64 (.ofNat 1)) fun v0 =>
pCond v0 (
some ((.int .i64 (.ofNat 0)), h)) (
loopC (σ := AV × AV × AV × Unit) NN (fun i4 s1 h2 d3 =>
pInt .leq s1.1 (.int .i64 (.ofNat 4)) fun v5 =>
pCond v5 (
pCall c (.fn 56 [] []) [s1.1] h2 fun v6 h7 =>
pInt .geq v6 s1.2.2.1 fun v8 =>
pCond v8 (
pLeave d3 h7 fun h9 =>
some (s1.1, h9)) (
pInt .add s1.1 (.int .i64 (.ofNat 1)) fun v10 =>
i4 (v10, s1.2.1, s1.2.2.1, ()) h7 d3)) (
pLeave d3 h2 fun h11 =>
some ((.int .i64 (.ofNat 0)), h11))) ((.int .i64 (.ofNat 1)), (.int .i64 (.ofNat 0)), a0, ()) h [])
theorem S45_eq (c : CV) (a0 : AV) (h : AH) : enterK Try.prog NN P45 c 45 [a0] h = S45 c a0 h := by kernel_rfl
def W45 (c : CV) (l : List AV) (h : AH) : R := match l with | [a0] => S45 c a0 h | _ => none
theorem W45_ok : WOk Try.prog 45 W45 := by
  intro c l h r e
  unfold W45 at e
  split at e
  · exact ⟨P45, by rw [S45_eq]; exact e⟩
  · cases e
/- quietus/arena.head -/
def P46 : Pl := .z
def S46 (_ : CV) (a0 : AV) (h : AH) : R :=
pInt .add (.int .i64 (.ofNat 0)) a0 fun v0 =>
some (v0, h)
theorem S46_eq (c : CV) (a0 : AV) (h : AH) : enterK Try.prog NN P46 c 46 [a0] h = S46 c a0 h := by kernel_rfl
def W46 (c : CV) (l : List AV) (h : AH) : R := match l with | [a0] => S46 c a0 h | _ => none
theorem W46_ok : WOk Try.prog 46 W46 := by
  intro c l h r e
  unfold W46 at e
  split at e
  · exact ⟨P46, by rw [S46_eq]; exact e⟩
  · cases e
/- quietus/arena.again -/
def P47 : Pl := (.n none .z (.n none .z (.n none .z (.n none .z (.n (some [10, 8, 7, 6]) .z .z)))))
def S47 (c : CV) (a0 a1 a2 : AV) (h : AH) : R :=
pInt .geq a2 (.int .u64 (.ofNat 2147483648)) fun v0 =>
pCond v0 (
some ((.tup [(.int .i64 (.ofNat 0)), (.int .i64 (.ofNat 2))]), h)) (
pConvI .i64 a2 fun v1 =>
pCall c (.fn 28 [] []) [a0, v1] h fun v2 h3 =>
pExtract v2 0 fun v4 =>
pExtract v2 1 fun v5 =>
joinC (α := AV × AV × AV × AV × Unit → AH → List Nat → R) (fun s6 h7 d8 =>
pInt .neq s6.1 (.int .i64 (.ofNat 0)) fun v10 =>
pCond v10 (
pLeave d8 h7 fun h11 =>
some ((.tup [(.int .i64 (.ofNat 0)), s6.1]), h11)) (
pLeave d8 h7 fun h12 =>
some ((.tup [s6.2.1, (.int .i64 (.ofNat 0))]), h12))) fun j9 =>
pInt .eql v5 (.int .i64 (.ofNat 0)) fun v13 =>
pCond v13 (
pCall c (.fn 46 [] []) [a1] h3 fun v14 h15 =>
pBuild [(.int .i64 (.ofNat 0)), (.int .u64 (.ofNat 0))] [(0, 1, v14), (1, 1, v4)] fun v16 =>
pInt .sub v1 (.int .i64 (.ofNat 1)) fun v17 =>
pInt .add a1 (.int .i64 (.ofNat 8)) fun v18 =>
pConvI .u64 v18 fun v19 =>
pBuild [(.int .i64 (.ofNat 0)), (.int .u64 (.ofNat 0))] [(0, 1, v17), (1, 1, v19)] fun v20 =>
pBuildS h15 75 [(.int .i64 (.ofNat 0)), (.int .u64 (.ofNat 0))] 2 [(0, 2, v16), (2, 2, v20)] fun v21 h22 =>
pCall c (.fn 30 [] []) [a0, v21] h22 fun v23 h24 =>
j9 (v23, v1, (.int .i64 (.ofNat 0)), (.int .i64 (.ofNat 0)), ()) h24 []) (
j9 (v5, v1, (.int .i64 (.ofNat 0)), (.int .i64 (.ofNat 0)), ()) h3 []))
theorem S47_eq (c : CV) (a0 a1 a2 : AV) (h : AH) : enterK Try.prog NN P47 c 47 [a0, a1, a2] h = S47 c a0 a1 a2 h := by kernel_rfl
def W47 (c : CV) (l : List AV) (h : AH) : R := match l with | [a0, a1, a2] => S47 c a0 a1 a2 h | _ => none
theorem W47_ok : WOk Try.prog 47 W47 := by
  intro c l h r e
  unfold W47 at e
  split at e
  · exact ⟨P47, by rw [S47_eq]; exact e⟩
  · cases e
/- quietus/arena.grown -/
def P48 : Pl := (.n none .z (.n none .z (.n none .z (.n none (.n none (.r [[22, 20, 6, 5, 4, 1, 0], [33, 24, 6, 5, 4, 1, 0]]) .z) .z))))
def S48 (c : CV) (a0 a1 : AV) (h : AH) : R :=
pCall c (.fn 28 [] []) [a0, (.int .i64 (.ofNat 5))] h fun v0 h1 =>
pExtract v0 0 fun v2 =>
pExtract v0 1 fun v3 =>
pInt .neq v3 (.int .i64 (.ofNat 0)) fun v4 =>
pCond v4 (
some ((.tup [(.int .i64 (.ofNat 0)), v3]), h1)) (
pInt .lss v2 (.int .u64 (.ofNat 14)) fun v5 =>
joinC (α := AV × AV × AV × AV × AV × AV × AV × Unit → AH → R) (fun s6 h7 =>
pPick s6.2.1 (.bool true) s6.1 fun v9 =>
joinC (α := AV × AV × AV × AV × AV × AV × AV × Unit → AH → R) (fun s10 h11 =>
pPick s10.2.1 (.bool true) s10.1 fun v13 =>
pCond v13 (
some ((.tup [(.int .i64 (.ofNat 0)), (.int .i64 (.ofNat 4))]), h11)) (
pConvI .i64 s10.2.2.1 fun v14 =>
pInt .add v14 (.int .i64 (.ofNat 1)) fun v15 =>
pCall c (.fn 56 [] []) [s10.2.2.2.2.2.1] h11 fun v16 h17 =>
pInt .add v15 v16 fun v18 =>
pConvI .u64 v18 fun v19 =>
pBuild [(.int .i64 (.ofNat 0)), (.int .u64 (.ofNat 0))] [(0, 1, (.int .i64 (.ofNat 5))), (1, 1, v19)] fun v20 =>
pInt .add s10.2.2.2.2.2.1 (.int .i64 (.ofNat 8)) fun v21 =>
pConvI .u64 v21 fun v22 =>
pBuild [(.int .i64 (.ofNat 0)), (.int .u64 (.ofNat 0))] [(0, 1, v14), (1, 1, v22)] fun v23 =>
pBuildS h17 75 [(.int .i64 (.ofNat 0)), (.int .u64 (.ofNat 0))] 2 [(0, 2, v20), (2, 2, v23)] fun v24 h25 =>
pCall c (.fn 30 [] []) [s10.2.2.2.2.2.2.1, v24] h25 fun v26 h27 =>
pInt .neq v26 (.int .i64 (.ofNat 0)) fun v28 =>
pCond v28 (
some ((.tup [(.int .i64 (.ofNat 0)), v26]), h27)) (
pInt .add v14 (.int .i64 (.ofNat 1)) fun v29 =>
some ((.tup [v29, (.int .i64 (.ofNat 0))]), h27)))) fun j12 =>
pWant v9 false (
pConvI .i64 s6.2.2.1 fun v30 =>
pInt .add v30 (.int .i64 (.ofNat 1)) fun v31 =>
pCall c (.fn 56 [] []) [s6.2.2.2.2.2.1] h7 fun v32 h33 =>
pInt .add v31 v32 fun v34 =>
pCall c (.fn 10 [] []) [s6.2.2.2.2.2.2.1] h33 fun v35 h36 =>
pInt .gtr v34 v35 fun v37 =>
j12 (v37, v9, s6.2.2.1, s6.2.2.2.1, s6.2.2.2.2.1, s6.2.2.2.2.2.1, s6.2.2.2.2.2.2.1, ()) h36) (
j12 (.undef, v9, s6.2.2.1, s6.2.2.2.1, s6.2.2.2.2.1, s6.2.2.2.2.2.1, s6.2.2.2.2.2.2.1, ()) h7)) fun j8 =>
pWant v5 false (
pInt .geq v2 (.int .u64 (.ofNat 2147483648)) fun v38 =>
j8 (v38, v5, v2, (.int .i64 (.ofNat 0)), (.int .i64 (.ofNat 0)), a1, a0, ()) h1) (
j8 (.undef, v5, v2, (.int .i64 (.ofNat 0)), (.int .i64 (.ofNat 0)), a1, a0, ()) h1))
theorem S48_eq (c : CV) (a0 a1 : AV) (h : AH) : enterK Try.prog NN P48 c 48 [a0, a1] h = S48 c a0 a1 h := by kernel_rfl
def W48 (c : CV) (l : List AV) (h : AH) : R := match l with | [a0, a1] => S48 c a0 a1 h | _ => none
theorem W48_ok : WOk Try.prog 48 W48 := by
  intro c l h r e
  unfold W48 at e
  split at e
  · exact ⟨P48, by rw [S48_eq]; exact e⟩
  · cases e
/- (*quietus/levels.Levels).Put -/
def P49 : Pl := (.n none .z (.n none (.n none (.r [[14, 12, 6, 2, 1, 0]]) .z) (.n none .z (.n none (.n none .z (.n none (.r [[32, 29, 7, 6, 2, 1]]) .z)) .z))))
def S49 (c : CV) (a0 a1 a2 : AV) (h : AH) : R :=
pInt .lss a1 (.int .i64 (.ofNat 1)) fun v0 =>
joinC (α := AV × AV × AV × AV × AV × AV × Unit → AH → R) (fun s1 h2 =>
pPick s1.2.1 (.bool true) s1.1 fun v4 =>
pCond v4 (
some ((.int .i64 (.ofNat 2)), h2)) (
pCall c (.fn 54 [] []) [s1.2.2.2.2.2.1] h2 fun v5 h6 =>
pNil v5 fun v7 =>
pFieldA v7 0 fun v8 =>
pLoad1 h6 v8 fun v9 =>
pCall c (.fn 52 [] []) [v9, s1.2.2.2.2.1] h6 fun v10 h11 =>
pExtract v10 0 fun _ =>
pExtract v10 1 fun v13 =>
pUn .not v13 fun v14 =>
joinC (α := AV × AV × AV × AV × AV × AV × Unit → AH → R) (fun s15 h16 =>
pPick s15.2.1 s15.1 (.bool false) fun v18 =>
pCond v18 (
some ((.int .i64 (.ofNat 5)), h16)) (
pCall c (.fn 58 [] []) [s15.2.2.1, s15.2.2.2.2.2.1, s15.2.2.2.2.1] h16 fun v19 h20 =>
some (v19, h20))) fun j17 =>
pWant v14 true (
pCall c (.fn 57 [] []) [s1.2.2.2.2.2.1] h11 fun v21 h22 =>
pInt .eql v21 (.int .i64 (.ofNat 0)) fun v23 =>
j17 (v23, v14, v9, s1.2.2.1, s1.2.2.2.1, s1.2.2.2.2.1, ()) h22) (
j17 (.undef, v14, v9, s1.2.2.1, s1.2.2.2.1, s1.2.2.2.2.1, ()) h11))) fun j3 =>
pWant v0 false (
pInt .geq a1 (.int .i64 (.ofNat 256)) fun v24 =>
j3 (v24, v0, (.int .i64 (.ofNat 0)), a2, a1, a0, ()) h) (
j3 (.undef, v0, (.int .i64 (.ofNat 0)), a2, a1, a0, ()) h)
theorem S49_eq (c : CV) (a0 a1 a2 : AV) (h : AH) : enterK Try.prog NN P49 c 49 [a0, a1, a2] h = S49 c a0 a1 a2 h := by kernel_rfl
def W49 (c : CV) (l : List AV) (h : AH) : R := match l with | [a0, a1, a2] => S49 c a0 a1 a2 h | _ => none
theorem W49_ok : WOk Try.prog 49 W49 := by
  intro c l h r e
  unfold W49 at e
  split at e
  · exact ⟨P49, by rw [S49_eq]; exact e⟩
  · cases e
/- quietus/writes.New -/
def P50 : Pl := .z
def S50 (_ : CV) (a0 : AV) (h : AH) : R :=
pMM false [a0, (.int .i64 (.ofNat 96))] fun v0 =>
pMM true [(.int .i64 (.ofNat 0)), v0] fun v1 =>
pBuild [(.int .i64 (.ofNat 0)), .nils] [(0, 1, v1)] fun v2 =>
pBox h 87 v2 fun v3 h4 =>
some (v3, h4)
theorem S50_eq (c : CV) (a0 : AV) (h : AH) : enterK Try.prog NN P50 c 50 [a0] h = S50 c a0 h := by kernel_rfl
def W50 (c : CV) (l : List AV) (h : AH) : R := match l with | [a0] => S50 c a0 h | _ => none
theorem W50_ok : WOk Try.prog 50 W50 := by
  intro c l h r e
  unfold W50 at e
  split at e
  · exact ⟨P50, by rw [S50_eq]; exact e⟩
  · cases e
/- slices.Backward[[]*quietus/levels.level,*quietus/levels.level] -/
def P51 : Pl := .z
def S51 (_ : CV) (a0 : AV) (h : AH) : R :=
pBox h 71 a0 fun v0 h1 =>
some ((.fn 59 [] [v0]), h1)
theorem S51_eq (c : CV) (a0 : AV) (h : AH) : enterK Try.prog NN P51 c 51 [a0] h = S51 c a0 h := by kernel_rfl
def W51 (c : CV) (l : List AV) (h : AH) : R := match l with | [a0] => S51 c a0 h | _ => none
theorem W51_ok : WOk Try.prog 51 W51 := by
  intro c l h r e
  unfold W51 at e
  split at e
  · exact ⟨P51, by rw [S51_eq]; exact e⟩
  · cases e
/- (*quietus/writes.Writes).Get -/
def P52 : Pl := .z
def S52 (c : CV) (a0 a1 : AV) (h : AH) : R :=
pCall c (.fn 60 [] []) [a0, a1] h fun v0 h1 =>
pInt .geq v0 (.int .i64 (.ofNat 0)) fun v2 =>
pCond v2 (
pNil a0 fun v3 =>
pFieldA v3 1 fun v4 =>
pLoad1 h1 v4 fun v5 =>
pIdxS v5 v0 2 fun v6 =>
pFieldA v6 1 fun v7 =>
pLoad1 h1 v7 fun v8 =>
some ((.tup [v8, (.bool true)]), h1)) (
some ((.tup [(.int .u64 (.ofNat 0)), (.bool false)]), h1))
theorem S52_eq (c : CV) (a0 a1 : AV) (h : AH) : enterK Try.prog NN P52 c 52 [a0, a1] h = S52 c a0 a1 h := by kernel_rfl
def W52 (c : CV) (l : List AV) (h : AH) : R := match l with | [a0, a1] => S52 c a0 a1 h | _ => none
theorem W52_ok : WOk Try.prog 52 W52 := by
  intro c l h r e
  unfold W52 at e
  split at e
  · exact ⟨P52, by rw [S52_eq]; exact e⟩
  · cases e
/- (*quietus/writes.Writes).Take -/
def P53 : Pl := (.n none .z (.n none .z (.n none (.n none .z (.n none (.n (some [13, 12, 11, 5, 4, 0]) .z .z) .z)) .z)))
def S53 (c : CV) (a0 a1 : AV) (h : AH) : R :=
pCall c (.fn 55 [] []) [a0] h fun v0 h1 =>
pLenS a1 fun v2 =>
loopC (σ := AV × AV × AV × AV × AV × AV × Unit) NN (fun i6 s3 h4 d5 =>
pInt .lss s3.1 s3.2.1 fun v7 =>
pCond v7 (
pIdxS s3.2.2.1 s3.1 2 fun v8 =>
pLoadN h4 v8 2 fun v9 =>
pBox h4 75 (.agg [(.int .i64 (.ofNat 0)), (.int .u64 (.ofNat 0))]) fun v10 h11 =>
pStore h11 v10 v9 2 fun h12 =>
pFieldA v10 0 fun v13 =>
pLoad1 h12 v13 fun v14 =>
pFieldA v10 1 fun v15 =>
pLoad1 h12 v15 fun v16 =>
pCall c (.fn 58 [] []) [s3.2.2.2.2.2.1, v14, v16] h12 fun v17 h18 =>
pInt .neq v17 (.int .i64 (.ofNat 0)) fun v19 =>
pCond v19 (
pNil s3.2.2.2.2.2.1 fun v20 =>
pFieldA v20 1 fun v21 =>
pStore h18 v21 s3.2.2.2.1 1 fun h22 =>
pLeave d5 h22 fun h23 =>
some (v17, h23)) (
pInt .add s3.1 (.int .i64 (.ofNat 1)) fun v24 =>
i6 (v24, s3.2.1, s3.2.2.1, s3.2.2.2.1, s3.2.2.2.2.1, s3.2.2.2.2.2.1, ()) h18 d5)) (
pLeave d5 h4 fun h25 =>
some ((.int .i64 (.ofNat 0)), h25))) ((.int .i64 (.ofNat 0)), v2, a1, v0, (.int .i64 (.ofNat 0)), a0, ()) h1 []
theorem S53_eq (c : CV) (a0 a1 : AV) (h : AH) : enterK Try.prog NN P53 c 53 [a0, a1] h = S53 c a0 a1 h := by kernel_rfl
def W53 (c : CV) (l : List AV) (h : AH) : R := match l with | [a0, a1] => S53 c a0 a1 h | _ => none
theorem W53_ok : WOk Try.prog 53 W53 := by
  intro c l h r e
  unfold W53 at e
  split at e
  · exact ⟨P53, by rw [S53_eq]; exact e⟩
  · cases e
/- (*quietus/levels.Levels).in -/
def P54 : Pl := .z
def S54 (_ : CV) (a0 : AV) (h : AH) : R :=
pNil a0 fun v0 =>
pFieldA v0 1 fun v1 =>
pLoad1 h v1 fun v2 =>
pNil a0 fun v3 =>
pFieldA v3 1 fun v4 =>
pLoad1 h v4 fun v5 =>
pLenS v5 fun v6 =>
pInt .sub v6 (.int .i64 (.ofNat 1)) fun v7 =>
pIdxS v2 v7 1 fun v8 =>
pLoad1 h v8 fun v9 =>
some (v9, h)
theorem S54_eq (c : CV) (a0 : AV) (h : AH) : enterK Try.prog NN P54 c 54 [a0] h = S54 c a0 h := by kernel_rfl
def W54 (c : CV) (l : List AV) (h : AH) : R := match l with | [a0] => S54 c a0 h | _ => none
theorem W54_ok : WOk Try.prog 54 W54 := by
  intro c l h r e
  unfold W54 at e
  split at e
  · exact ⟨P54, by rw [S54_eq]; exact e⟩
  · cases e
/- (*quietus/writes.Writes).All -/
def P55 : Pl := .z
def S55 (c : CV) (a0 : AV) (h : AH) : R :=
pNil a0 fun v0 =>
pFieldA v0 1 fun v1 =>
pLoad1 h v1 fun v2 =>
pCall c (.fn 61 [] []) [v2] h fun v3 h4 =>
some (v3, h4)
theorem S55_eq (c : CV) (a0 : AV) (h : AH) : enterK Try.prog NN P55 c 55 [a0] h = S55 c a0 h := by kernel_rfl
def W55 (c : CV) (l : List AV) (h : AH) : R := match l with | [a0] => S55 c a0 h | _ => none
theorem W55_ok : WOk Try.prog 55 W55 := by
  intro c l h r e
  unfold W55 at e
  split at e
  · exact ⟨P55, by rw [S55_eq]; exact e⟩
  · cases e
/- quietus/arena.Size -/
def P56 : Pl := (.n none .z (.n none (.n none (.r [[7, 5, 2, 0]]) .z) .z))
def S56 (_ : CV) (a0 : AV) (h : AH) : R :=
pInt .lss a0 (.int .i64 (.ofNat 1)) fun v0 =>
joinC (α := AV × AV × AV × AV × Unit → AH → R) (fun s1 h2 =>
pPick s1.2.1 (.bool true) s1.1 fun v4 =>
pCond v4 (
some ((.int .i64 (.ofNat 0)), h2)) (
pShift .shl (.int .i64 (.ofNat 1)) s1.2.2.2.1 fun v5 =>
some (v5, h2))) fun j3 =>
pWant v0 false (
pInt .gtr a0 (.int .i64 (.ofNat 4)) fun v6 =>
j3 (v6, v0, (.int .i64 (.ofNat 0)), a0, ()) h) (
j3 (.undef, v0, (.int .i64 (.ofNat 0)), a0, ()) h)
theorem S56_eq (c : CV) (a0 : AV) (h : AH) : enterK Try.prog NN P56 c 56 [a0] h = S56 c a0 h := by kernel_rfl
def W56 (c : CV) (l : List AV) (h : AH) : R := match l with | [a0] => S56 c a0 h | _ => none
theorem W56_ok : WOk Try.prog 56 W56 := by
  intro c l h r e
  unfold W56 at e
  split at e
  · exact ⟨P56, by rw [S56_eq]; exact e⟩
  · cases e
/- (*quietus/levels.Levels).Room -/
def P57 : Pl := (.n none .z (.n none .z (.n none (.n none .z (.n none (.n (some [15, 14, 13, 3, 2]) .z .z) .z)) .z)))
def S57 (c : CV) (a0 : AV) (h : AH) : R :=
pNil a0 fun v0 =>
pFieldA v0 0 fun v1 =>
pLoad1 h v1 fun v2 =>
pNil a0 fun v3 =>
pFieldA v3 1 fun v4 =>
pLoad1 h v4 fun v5 =>
pLenS v5 fun v6 =>
loopC (σ := AV × AV × AV × AV × AV × Unit) NN (fun i10 s7 h8 d9 =>
pInt .lss s7.1 s7.2.1 fun v11 =>
pCond v11 (
pIdxS s7.2.2.1 s7.1 1 fun v12 =>
pLoad1 h8 v12 fun v13 =>
pNil v13 fun v14 =>
pFieldA v14 0 fun v15 =>
pLoad1 h8 v15 fun v16 =>
pCall c (.fn 62 [] []) [v16] h8 fun v17 h18 =>
pInt .sub s7.2.2.2.1 v17 fun v19 =>
pInt .add s7.1 (.int .i64 (.ofNat 1)) fun v20 =>
i10 (v20, s7.2.1, s7.2.2.1, v19, s7.2.2.2.2.1, ()) h18 d9) (
pLeave d9 h8 fun h21 =>
some (s7.2.2.2.1, h21))) ((.int .i64 (.ofNat 0)), v6, v5, v2, (.int .i64 (.ofNat 0)), ()) h []
theorem S57_eq (c : CV) (a0 : AV) (h : AH) : enterK Try.prog NN P57 c 57 [a0] h = S57 c a0 h := by kernel_rfl
def W57 (c : CV) (l : List AV) (h : AH) : R := match l with | [a0] => S57 c a0 h | _ => none
theorem W57_ok : WOk Try.prog 57 W57 := by
  intro c l h r e
  unfold W57 at e
  split at e
  · exact ⟨P57, by rw [S57_eq]; exact e⟩
  · cases e
/- (*quietus/writes.Writes).Put -/
def P58 : Pl := (.n none .z (.n none (.n none (.r [[12, 10, 6, 2, 1, 0]]) .z) .z))
def S58 (c : CV) (a0 a1 a2 : AV) (h : AH) : R :=
pInt .lss a1 (.int .i64 (.ofNat 1)) fun v0 =>
joinC (α := AV × AV × AV × AV × AV × AV × Unit → AH → R) (fun s1 h2 =>
pPick s1.2.1 (.bool true) s1.1 fun v4 =>
pCond v4 (
some ((.int .i64 (.ofNat 2)), h2)) (
pCall c (.fn 60 [] []) [s1.2.2.2.2.2.1, s1.2.2.2.2.1] h2 fun v5 h6 =>
pInt .geq v5 (.int .i64 (.ofNat 0)) fun v7 =>
pCond v7 (
pNil s1.2.2.2.2.2.1 fun v8 =>
pFieldA v8 1 fun v9 =>
pLoad1 h6 v9 fun v10 =>
pIdxS v10 v5 2 fun v11 =>
pFieldA v11 1 fun v12 =>
pStore h6 v12 s1.2.2.2.1 1 fun h13 =>
some ((.int .i64 (.ofNat 0)), h13)) (
pNil s1.2.2.2.2.2.1 fun v14 =>
pFieldA v14 1 fun v15 =>
pLoad1 h6 v15 fun v16 =>
pLenS v16 fun v17 =>
pNil s1.2.2.2.2.2.1 fun v18 =>
pFieldA v18 0 fun v19 =>
pLoad1 h6 v19 fun v20 =>
pInt .geq v17 v20 fun v21 =>
pCond v21 (
some ((.int .i64 (.ofNat 5)), h6)) (
pNil s1.2.2.2.2.2.1 fun v22 =>
pFieldA v22 1 fun v23 =>
pLoad1 h6 v23 fun v24 =>
pBuild [(.int .i64 (.ofNat 0)), (.int .u64 (.ofNat 0))] [(0, 1, s1.2.2.2.2.1), (1, 1, s1.2.2.2.1)] fun v25 =>
pBuildS h6 75 [(.int .i64 (.ofNat 0)), (.int .u64 (.ofNat 0))] 1 [(0, 2, v25)] fun v26 h27 =>
pAppend h27 75 2 v24 v26 fun v28 h29 =>
pNil s1.2.2.2.2.2.1 fun v30 =>
pFieldA v30 1 fun v31 =>
pStore h29 v31 v28 1 fun h32 =>
some ((.int .i64 (.ofNat 0)), h32))))) fun j3 =>
pWant v0 false (
pInt .geq a1 (.int .i64 (.ofNat 256)) fun v33 =>
j3 (v33, v0, (.int .i64 (.ofNat 0)), a2, a1, a0, ()) h) (
j3 (.undef, v0, (.int .i64 (.ofNat 0)), a2, a1, a0, ()) h)
theorem S58_eq (c : CV) (a0 a1 a2 : AV) (h : AH) : enterK Try.prog NN P58 c 58 [a0, a1, a2] h = S58 c a0 a1 a2 h := by kernel_rfl
def W58 (c : CV) (l : List AV) (h : AH) : R := match l with | [a0, a1, a2] => S58 c a0 a1 a2 h | _ => none
theorem W58_ok : WOk Try.prog 58 W58 := by
  intro c l h r e
  unfold W58 at e
  split at e
  · exact ⟨P58, by rw [S58_eq]; exact e⟩
  · cases e
/- slices.Backward[[]*quietus/levels.level,*quietus/levels.level]$1 -/
def P59 : Pl := (.n none .z (.n none (.n (some [3, 1, 0]) .z .z) .z))
def S59 (c : CV) (a0 a1 : AV) (h : AH) : R :=
pLoad1 h a1 fun v0 =>
pLenS v0 fun v1 =>
pInt .sub v1 (.int .i64 (.ofNat 1)) fun v2 =>
loopC (σ := AV × AV × AV × Unit) NN (fun i6 s3 h4 d5 =>
pInt .geq s3.1 (.int .i64 (.ofNat 0)) fun v7 =>
pCond v7 (
pLoad1 h4 s3.2.1 fun v8 =>
pIdxS v8 s3.1 1 fun v9 =>
pLoad1 h4 v9 fun v10 =>
pCall c s3.2.2.1 [s3.1, v10] h4 fun v11 h12 =>
pUn .not v11 fun v13 =>
pCond v13 (
pLeave d5 h12 fun h14 =>
some ((.tup []), h14)) (
pInt .sub s3.1 (.int .i64 (.ofNat 1)) fun v15 =>
i6 (v15, s3.2.1, s3.2.2.1, ()) h12 d5)) (
pLeave d5 h4 fun h16 =>
some ((.tup []), h16))) (v2, a1, a0, ()) h []
theorem S59_eq (c : CV) (a0 a1 : AV) (h : AH) : enterK Try.prog NN P59 c 59 [a0, a1] h = S59 c a0 a1 h := by kernel_rfl
def W59 (c : CV) (l : List AV) (h : AH) : R := match l with | [a0, a1] => S59 c a0 a1 h | _ => none
theorem W59_ok : WOk Try.prog 59 W59 := by
  intro c l h r e
  unfold W59 at e
  split at e
  · exact ⟨P59, by rw [S59_eq]; exact e⟩
  · cases e
/- (*quietus/writes.Writes).find -/
def P60 : Pl := .z
def S60 (c : CV) (a0 a1 : AV) (h : AH) : R :=
pBox h 3 a1 fun v0 h1 =>
pNil a0 fun v2 =>
pFieldA v2 1 fun v3 =>
pLoad1 h1 v3 fun v4 =>
pCall c (.fn 63 [] []) [v4, (.fn 64 [] [v0])] h1 fun v5 h6 =>
some (v5, h6)
theorem S60_eq (c : CV) (a0 a1 : AV) (h : AH) : enterK Try.prog NN P60 c 60 [a0, a1] h = S60 c a0 a1 h := by kernel_rfl
def W60 (c : CV) (l : List AV) (h : AH) : R := match l with | [a0, a1] => S60 c a0 a1 h | _ => none
theorem W60_ok : WOk Try.prog 60 W60 := by
  intro c l h r e
  unfold W60 at e
  split at e
  · exact ⟨P60, by rw [S60_eq]; exact e⟩
  · cases e
/- slices.Clone[[]quietus/api.Cell,quietus/api.Cell] -/
def P61 : Pl := .z
def S61 (_ : CV) (a0 : AV) (h : AH) : R :=
pEq .slc false a0 .nils fun v0 =>
pCond v0 (
some (.nils, h)) (
pBuildS h 75 [(.int .i64 (.ofNat 0)), (.int .u64 (.ofNat 0))] 0 [] fun v1 h2 =>
pAppend h2 75 2 v1 a0 fun v3 h4 =>
some (v3, h4))
theorem S61_eq (c : CV) (a0 : AV) (h : AH) : enterK Try.prog NN P61 c 61 [a0] h = S61 c a0 h := by kernel_rfl
def W61 (c : CV) (l : List AV) (h : AH) : R := match l with | [a0] => S61 c a0 h | _ => none
theorem W61_ok : WOk Try.prog 61 W61 := by
  intro c l h r e
  unfold W61 at e
  split at e
  · exact ⟨P61, by rw [S61_eq]; exact e⟩
  · cases e
/- (*quietus/writes.Writes).Len -/
def P62 : Pl := .z
def S62 (_ : CV) (a0 : AV) (h : AH) : R :=
pNil a0 fun v0 =>
pFieldA v0 1 fun v1 =>
pLoad1 h v1 fun v2 =>
pLenS v2 fun v3 =>
some (v3, h)
theorem S62_eq (c : CV) (a0 : AV) (h : AH) : enterK Try.prog NN P62 c 62 [a0] h = S62 c a0 h := by kernel_rfl
def W62 (c : CV) (l : List AV) (h : AH) : R := match l with | [a0] => S62 c a0 h | _ => none
theorem W62_ok : WOk Try.prog 62 W62 := by
  intro c l h r e
  unfold W62 at e
  split at e
  · exact ⟨P62, by rw [S62_eq]; exact e⟩
  · cases e
/- slices.IndexFunc[[]quietus/api.Cell,quietus/api.Cell] -/
def P63 : Pl := (.n none .z (.n none (.n none .z (.n none (.n (some [8, 7, 4, 1, 0]) .z .z) .z)) .z))
def S63 (c : CV) (a0 a1 : AV) (h : AH) : R :=
pLenS a0 fun v0 =>
loopC (σ := AV × AV × AV × AV × AV × Unit) NN (fun i4 s1 h2 d3 =>
pInt .lss s1.1 s1.2.1 fun v5 =>
pCond v5 (
pIdxS s1.2.2.2.2.1 s1.1 2 fun v6 =>
pLoadN h2 v6 2 fun v7 =>
pCall c s1.2.2.2.1 [v7] h2 fun v8 h9 =>
pCond v8 (
pLeave d3 h9 fun h10 =>
some (s1.1, h10)) (
pInt .add s1.1 (.int .i64 (.ofNat 1)) fun v11 =>
i4 (v11, s1.2.1, s1.2.2.1, s1.2.2.2.1, s1.2.2.2.2.1, ()) h9 d3)) (
pLeave d3 h2 fun h12 =>
some ((.int .i64 (.negSucc 0)), h12))) ((.int .i64 (.ofNat 0)), v0, (.int .i64 (.ofNat 0)), a1, a0, ()) h []
theorem S63_eq (c : CV) (a0 a1 : AV) (h : AH) : enterK Try.prog NN P63 c 63 [a0, a1] h = S63 c a0 a1 h := by kernel_rfl
def W63 (c : CV) (l : List AV) (h : AH) : R := match l with | [a0, a1] => S63 c a0 a1 h | _ => none
theorem W63_ok : WOk Try.prog 63 W63 := by
  intro c l h r e
  unfold W63 at e
  split at e
  · exact ⟨P63, by rw [S63_eq]; exact e⟩
  · cases e
/- (*quietus/writes.Writes).find$1 -/
def P64 : Pl := .z
def S64 (_ : CV) (a0 a1 : AV) (h : AH) : R :=
pBox h 75 a0 fun v0 h1 =>
pFieldA v0 0 fun v2 =>
pLoad1 h1 v2 fun v3 =>
pLoad1 h1 a1 fun v4 =>
pInt .eql v3 v4 fun v5 =>
some (v5, h1)
theorem S64_eq (c : CV) (a0 a1 : AV) (h : AH) : enterK Try.prog NN P64 c 64 [a0, a1] h = S64 c a0 a1 h := by kernel_rfl
def W64 (c : CV) (l : List AV) (h : AH) : R := match l with | [a0, a1] => S64 c a0 a1 h | _ => none
theorem W64_ok : WOk Try.prog 64 W64 := by
  intro c l h r e
  unfold W64 at e
  split at e
  · exact ⟨P64, by rw [S64_eq]; exact e⟩
  · cases e
/- (*quietus/levels.Levels).Get: a round -/
def Q0 : Pl := (.n none .z .z)
def B0 (c : CV) (l : Nat) (v0 v1 v2 _ a1 : AV) (h : AH) : R :=
pBegin h l fun h100 =>
pNil a1 fun v101 =>
pFieldA v101 0 fun v102 =>
pLoad1 h100 v102 fun v103 =>
pLoad1 h100 v2 fun v104 =>
pCall c (.fn 52 [] []) [v103, v104] h100 fun v105 h106 =>
pExtract v105 0 fun v107 =>
pExtract v105 1 fun v108 =>
pCond v108 (
pStore h106 v1 v107 1 fun h109 =>
pStore h109 v0 (.bool true) 1 fun h110 =>
pEndRound h110 l (some .ret)) (
pEndRound h106 l none)
theorem B0_eq (c : CV) (l : Nat) (v0 v1 v2 a0 a1 : AV) (h : AH) : roundK Try.prog NN Q0 c 40 [1, 0, 1, 0] [5, 4, 3] l [v0, v1, v2] [a0, a1] h = B0 c l v0 v1 v2 a0 a1 h := by kernel_rfl
def V0 (c : CV) (l : Nat) (x y : List AV) (h : AH) : R := match x, y with | [v0, v1, v2], [a0, a1] => B0 c l v0 v1 v2 a0 a1 h | _, _ => none
theorem V0_ok : VOk Try.prog 40 [1, 0, 1, 0] [5, 4, 3] V0 := by
  intro c l x y h r e
  unfold V0 at e
  split at e
  · exact ⟨Q0, by rw [B0_eq]; exact e⟩
  · cases e
/- (*quietus/levels.Levels).Cells: a round -/
def Q1 : Pl := (.n none .z .z)
def B1 (c : CV) (l : Nat) (v0 _ a1 : AV) (h : AH) : R :=
pBegin h l fun h100 =>
pCall c (.fn 50 [] []) [(.int .i64 (.ofNat 96))] h100 fun v101 h102 =>
pNil a1 fun v103 =>
pFieldA v103 0 fun v104 =>
pLoad1 h102 v104 fun v105 =>
pCall c (.fn 55 [] []) [v105] h102 fun v106 h107 =>
pCall c (.fn 53 [] []) [v101, v106] h107 fun _ h109 =>
pLoad1 h109 v0 fun v110 =>
pCall c (.fn 53 [] []) [v101, v110] h109 fun _ h112 =>
pCall c (.fn 55 [] []) [v101] h112 fun v113 h114 =>
pStore h114 v0 v113 1 fun h115 =>
pEndRound h115 l none
theorem B1_eq (c : CV) (l : Nat) (v0 a0 a1 : AV) (h : AH) : roundK Try.prog NN Q1 c 42 [1, 1, 0, 1, 0] [3] l [v0] [a0, a1] h = B1 c l v0 a0 a1 h := by kernel_rfl
def V1 (c : CV) (l : Nat) (x y : List AV) (h : AH) : R := match x, y with | [v0], [a0, a1] => B1 c l v0 a0 a1 h | _, _ => none
theorem V1_ok : VOk Try.prog 42 [1, 1, 0, 1, 0] [3] V1 := by
  intro c l x y h r e
  unfold V1 at e
  split at e
  · exact ⟨Q1, by rw [B1_eq]; exact e⟩
  · cases e
end Go.Proofs.Ytjhjhmfhfneecaa
