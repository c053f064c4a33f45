/- Printed by a program of mine: the bodies of the program's functions aa terms of the primitives of the abstract executor, each shown equal by the kernel. -/
import Derived.Test.YtlkmghghgmagaaaGreatDoorProg
import Derived.Test.YtlkmghghgmagaaaGreatDoorAe1
import Derived.KernelRfl
namespace Go.Proofs.YtlkmghghgmagaaaGreatDoor
open Go Go.Ae
set_option maxRecDepth 100000
noncomputable section
/- quietus/arena.again -/
def P258 : Pl := (.n none .z (.n none .z (.n none .z (.n none .z (.n (some [10, 8]) .z .z)))))
def S258 (c : CV) (a0 a1 a2 : AV) (h : AH) : R :=
pInt .geq a2 (.int .u64 (.ofNat 2147483648)) fun v0 =>
pCond v0 (
some ((.tup [(.int .i64 (.ofNat 0)), (.int .i64 (.ofNat 2))]), h)) (
pConvI .i64 a2 fun v1 =>
pCall c (.fn 121 [] []) [a0, v1] h fun v2 h3 =>
pExtract v2 0 fun v4 =>
pExtract v2 1 fun v5 =>
joinC (α := AV × AV × Unit → AH → List Nat → R) (fun s6 h7 d8 =>
pInt .neq s6.1 (.int .i64 (.ofNat 0)) fun v10 =>
pCond v10 (
pLeave d8 h7 fun h11 =>
some ((.tup [(.int .i64 (.ofNat 0)), s6.1]), h11)) (
pLeave d8 h7 fun h12 =>
some ((.tup [s6.2.1, (.int .i64 (.ofNat 0))]), h12))) fun j9 =>
pInt .eql v5 (.int .i64 (.ofNat 0)) fun v13 =>
pCond v13 (
pCall c (.fn 122 [] []) [a1] h3 fun v14 h15 =>
pBuild [(.int .i64 (.ofNat 0)), (.int .u64 (.ofNat 0))] [(0, 1, v14), (1, 1, v4)] fun v16 =>
pInt .sub v1 (.int .i64 (.ofNat 1)) fun v17 =>
pInt .add a1 (.int .i64 (.ofNat 8)) fun v18 =>
pConvI .u64 v18 fun v19 =>
pBuild [(.int .i64 (.ofNat 0)), (.int .u64 (.ofNat 0))] [(0, 1, v17), (1, 1, v19)] fun v20 =>
pBuildS h15 133 [(.int .i64 (.ofNat 0)), (.int .u64 (.ofNat 0))] 2 [(0, 2, v16), (2, 2, v20)] fun v21 h22 =>
pCall c (.fn 123 [] []) [a0, v21] h22 fun v23 h24 =>
j9 (v23, v1, ()) h24 []) (
j9 (v5, v1, ()) h3 []))
theorem S258_eq (c : CV) (a0 a1 a2 : AV) (h : AH) : enterK Tryz.prog NN P258 c 258 [a0, a1, a2] h = S258 c a0 a1 a2 h := by kernel_rfl
def W258 (c : CV) (l : List AV) (h : AH) : R := match l with | [a0, a1, a2] => S258 c a0 a1 a2 h | _ => none
theorem W258_ok : WOk Tryz.prog 258 W258 := by
  intro c l h r e
  unfold W258 at e
  split at e
  · exact ⟨P258, by rw [S258_eq]; exact e⟩
  · cases e
/- quietus/arena.grown -/
def P259 : Pl := (.n none .z (.n none .z (.n none .z (.n none (.n none (.r [[22, 20, 6, 1, 0], [33, 24, 6, 1, 0]]) .z) .z))))
def S259 (c : CV) (a0 a1 : AV) (h : AH) : R :=
pCall c (.fn 121 [] []) [a0, (.int .i64 (.ofNat 5))] h fun v0 h1 =>
pExtract v0 0 fun v2 =>
pExtract v0 1 fun v3 =>
pInt .neq v3 (.int .i64 (.ofNat 0)) fun v4 =>
pCond v4 (
some ((.tup [(.int .i64 (.ofNat 0)), v3]), h1)) (
pInt .lss v2 (.int .u64 (.ofNat 14)) fun v5 =>
joinC (α := AV × AV × AV × AV × AV × Unit → AH → R) (fun s6 h7 =>
pPick s6.2.1 (.bool true) s6.1 fun v9 =>
joinC (α := AV × AV × AV × AV × AV × Unit → AH → R) (fun s10 h11 =>
pPick s10.2.1 (.bool true) s10.1 fun v13 =>
pCond v13 (
some ((.tup [(.int .i64 (.ofNat 0)), (.int .i64 (.ofNat 4))]), h11)) (
pConvI .i64 s10.2.2.1 fun v14 =>
pInt .add v14 (.int .i64 (.ofNat 1)) fun v15 =>
pCall c (.fn 297 [] []) [s10.2.2.2.1] h11 fun v16 h17 =>
pInt .add v15 v16 fun v18 =>
pConvI .u64 v18 fun v19 =>
pBuild [(.int .i64 (.ofNat 0)), (.int .u64 (.ofNat 0))] [(0, 1, (.int .i64 (.ofNat 5))), (1, 1, v19)] fun v20 =>
pInt .add s10.2.2.2.1 (.int .i64 (.ofNat 8)) fun v21 =>
pConvI .u64 v21 fun v22 =>
pBuild [(.int .i64 (.ofNat 0)), (.int .u64 (.ofNat 0))] [(0, 1, v14), (1, 1, v22)] fun v23 =>
pBuildS h17 133 [(.int .i64 (.ofNat 0)), (.int .u64 (.ofNat 0))] 2 [(0, 2, v20), (2, 2, v23)] fun v24 h25 =>
pCall c (.fn 123 [] []) [s10.2.2.2.2.1, v24] h25 fun v26 h27 =>
pInt .neq v26 (.int .i64 (.ofNat 0)) fun v28 =>
pCond v28 (
some ((.tup [(.int .i64 (.ofNat 0)), v26]), h27)) (
pInt .add v14 (.int .i64 (.ofNat 1)) fun v29 =>
some ((.tup [v29, (.int .i64 (.ofNat 0))]), h27)))) fun j12 =>
pWant v9 false (
pConvI .i64 s6.2.2.1 fun v30 =>
pInt .add v30 (.int .i64 (.ofNat 1)) fun v31 =>
pCall c (.fn 297 [] []) [s6.2.2.2.1] h7 fun v32 h33 =>
pInt .add v31 v32 fun v34 =>
pCall c (.fn 155 [] []) [s6.2.2.2.2.1] h33 fun v35 h36 =>
pInt .gtr v34 v35 fun v37 =>
j12 (v37, v9, s6.2.2.1, s6.2.2.2.1, s6.2.2.2.2.1, ()) h36) (
j12 (.undef, v9, s6.2.2.1, s6.2.2.2.1, s6.2.2.2.2.1, ()) h7)) fun j8 =>
pWant v5 false (
pInt .geq v2 (.int .u64 (.ofNat 2147483648)) fun v38 =>
j8 (v38, v5, v2, a1, a0, ()) h1) (
j8 (.undef, v5, v2, a1, a0, ()) h1))
theorem S259_eq (c : CV) (a0 a1 : AV) (h : AH) : enterK Tryz.prog NN P259 c 259 [a0, a1] h = S259 c a0 a1 h := by kernel_rfl
def W259 (c : CV) (l : List AV) (h : AH) : R := match l with | [a0, a1] => S259 c a0 a1 h | _ => none
theorem W259_ok : WOk Tryz.prog 259 W259 := by
  intro c l h r e
  unfold W259 at e
  split at e
  · exact ⟨P259, by rw [S259_eq]; exact e⟩
  · cases e
/- (*quietus/view.View).Free -/
def P260 : Pl := .z
def S260 (c : CV) (a0 a1 : AV) (h : AH) : R :=
pNil a0 fun v0 =>
pFieldA v0 2 fun v1 =>
pLoad1 h v1 fun v2 =>
pCall c (.fn 298 [] []) [v2, a1] h fun _ h4 =>
some ((.tup []), h4)
theorem S260_eq (c : CV) (a0 a1 : AV) (h : AH) : enterK Tryz.prog NN P260 c 260 [a0, a1] h = S260 c a0 a1 h := by kernel_rfl
def W260 (c : CV) (l : List AV) (h : AH) : R := match l with | [a0, a1] => S260 c a0 a1 h | _ => none
theorem W260_ok : WOk Tryz.prog 260 W260 := by
  intro c l h r e
  unfold W260 at e
  split at e
  · exact ⟨P260, by rw [S260_eq]; exact e⟩
  · cases e
/- (*quietus/view.View).Open -/
def P261 : Pl := .z
def S261 (c : CV) (a0 : AV) (h : AH) : R :=
pNil a0 fun v0 =>
pFieldA v0 2 fun v1 =>
pLoad1 h v1 fun v2 =>
pCall c (.fn 299 [] []) [v2] h fun v3 h4 =>
some (v3, h4)
theorem S261_eq (c : CV) (a0 : AV) (h : AH) : enterK Tryz.prog NN P261 c 261 [a0] h = S261 c a0 h := by kernel_rfl
def W261 (c : CV) (l : List AV) (h : AH) : R := match l with | [a0] => S261 c a0 h | _ => none
theorem W261_ok : WOk Tryz.prog 261 W261 := by
  intro c l h r e
  unfold W261 at e
  split at e
  · exact ⟨P261, by rw [S261_eq]; exact e⟩
  · cases e
/- (*quietus/slate.Slate).Len -/
def P262 : Pl := .z
def S262 (_ : CV) (a0 : AV) (h : AH) : R :=
pNil a0 fun v0 =>
pFieldA v0 0 fun v1 =>
pLoad1 h v1 fun v2 =>
pLenS v2 fun v3 =>
some (v3, h)
theorem S262_eq (c : CV) (a0 : AV) (h : AH) : enterK Tryz.prog NN P262 c 262 [a0] h = S262 c a0 h := by kernel_rfl
def W262 (c : CV) (l : List AV) (h : AH) : R := match l with | [a0] => S262 c a0 h | _ => none
theorem W262_ok : WOk Tryz.prog 262 W262 := by
  intro c l h r e
  unfold W262 at e
  split at e
  · exact ⟨P262, by rw [S262_eq]; exact e⟩
  · cases e
/- (*quietus/levels.Levels).Keep -/
def P263 : Pl := (.n none .z (.n none .z (.n none .z (.n none .z (.n none .z (.n none (.r [[2]]) .z))))))
def S263 (c : CV) (a0 : AV) (h : AH) : R :=
pCall c (.fn 199 [] []) [a0] h fun v0 h1 =>
pCall c (.fn 265 [] []) [a0] h1 fun v2 h3 =>
pInt .neq v2 (.int .i64 (.ofNat 0)) fun v4 =>
pCond v4 (
some (v2, h3)) (
pCall c (.fn 199 [] []) [a0] h3 fun v5 h6 =>
pNil v5 fun v7 =>
pFieldA v7 1 fun v8 =>
pLoad1 h6 v8 fun v9 =>
pNil v0 fun v10 =>
pFieldA v10 1 fun v11 =>
pLoad1 h6 v11 fun v12 =>
pAppend h6 3 1 v9 v12 fun v13 h14 =>
pNil v5 fun v15 =>
pFieldA v15 1 fun v16 =>
pStore h14 v16 v13 1 fun h17 =>
joinC (α := AV × Unit → AH → R) (fun s18 h19 =>
some (s18.1, h19)) fun j20 =>
pNil v5 fun v21 =>
pFieldA v21 0 fun v22 =>
pLoad1 h17 v22 fun v23 =>
pNil v0 fun v24 =>
pFieldA v24 0 fun v25 =>
pLoad1 h17 v25 fun v26 =>
pCall c (.fn 127 [] []) [v26] h17 fun v27 h28 =>
pCall c (.fn 126 [] []) [v23, v27] h28 fun v29 h30 =>
pChk v22 none v23 h17 h28 h17.nx <|
j20 (v29, ()) h30)
theorem S263_eq (c : CV) (a0 : AV) (h : AH) : enterK Tryz.prog NN P263 c 263 [a0] h = S263 c a0 h := by kernel_rfl
def W263 (c : CV) (l : List AV) (h : AH) : R := match l with | [a0] => S263 c a0 h | _ => none
theorem W263_ok : WOk Tryz.prog 263 W263 := by
  intro c l h r e
  unfold W263 at e
  split at e
  · exact ⟨P263, by rw [S263_eq]; exact e⟩
  · cases e
/- (*quietus/slate.Slate).Cut -/
def P264 : Pl := .z
def S264 (c : CV) (a0 a1 : AV) (h : AH) : R :=
pNil a0 fun v0 =>
pFieldA v0 0 fun v1 =>
pLoad1 h v1 fun v2 =>
pNil a0 fun v3 =>
pFieldA v3 0 fun v4 =>
pLoad1 h v4 fun v5 =>
pLenS v5 fun v6 =>
pMM false [a1, v6] fun v7 =>
pMM true [(.int .i64 (.ofNat 0)), v7] fun v8 =>
pSlice h 20 1 v2 none (some v8) fun v9 =>
pCall c (.fn 137 [] []) [v9] h fun v10 h11 =>
pNil a0 fun v12 =>
pFieldA v12 0 fun v13 =>
pStore h11 v13 v10 1 fun h14 =>
some ((.tup []), h14)
theorem S264_eq (c : CV) (a0 a1 : AV) (h : AH) : enterK Tryz.prog NN P264 c 264 [a0, a1] h = S264 c a0 a1 h := by kernel_rfl
def W264 (c : CV) (l : List AV) (h : AH) : R := match l with | [a0, a1] => S264 c a0 a1 h | _ => none
theorem W264_ok : WOk Tryz.prog 264 W264 := by
  intro c l h r e
  unfold W264 at e
  split at e
  · exact ⟨P264, by rw [S264_eq]; exact e⟩
  · cases e
/- (*quietus/levels.Levels).Drop -/
def P265 : Pl := .z
def S265 (_ : CV) (a0 : AV) (h : AH) : R :=
pNil a0 fun v0 =>
pFieldA v0 1 fun v1 =>
pLoad1 h v1 fun v2 =>
pLenS v2 fun v3 =>
pInt .eql v3 (.int .i64 (.ofNat 1)) fun v4 =>
pCond v4 (
some ((.int .i64 (.ofNat 10)), h)) (
pNil a0 fun v5 =>
pFieldA v5 1 fun v6 =>
pLoad1 h v6 fun v7 =>
pNil a0 fun v8 =>
pFieldA v8 1 fun v9 =>
pLoad1 h v9 fun v10 =>
pLenS v10 fun v11 =>
pInt .sub v11 (.int .i64 (.ofNat 1)) fun v12 =>
pSlice h 205 1 v7 none (some v12) fun v13 =>
pNil a0 fun v14 =>
pFieldA v14 1 fun v15 =>
pStore h v15 v13 1 fun h16 =>
some ((.int .i64 (.ofNat 0)), h16))
theorem S265_eq (c : CV) (a0 : AV) (h : AH) : enterK Tryz.prog NN P265 c 265 [a0] h = S265 c a0 h := by kernel_rfl
def W265 (c : CV) (l : List AV) (h : AH) : R := match l with | [a0] => S265 c a0 h | _ => none
theorem W265_ok : WOk Tryz.prog 265 W265 := by
  intro c l h r e
  unfold W265 at e
  split at e
  · exact ⟨P265, by rw [S265_eq]; exact e⟩
  · cases e
/- (*quietus/levels.Levels).Room -/
def P266 : Pl := (.n none .z (.n none .z (.n none (.n none .z (.n none (.n (some [15, 14, 13, 3]) .z .z) .z)) .z)))
def S266 (c : CV) (a0 : AV) (h : AH) : R :=
pNil a0 fun v0 =>
pFieldA v0 0 fun v1 =>
pLoad1 h v1 fun v2 =>
pNil a0 fun v3 =>
pFieldA v3 1 fun v4 =>
pLoad1 h v4 fun v5 =>
pLenS v5 fun v6 =>
loopC (σ := AV × AV × AV × AV × Unit) NN (fun i10 s7 h8 d9 =>
pInt .lss s7.1 s7.2.1 fun v11 =>
pCond v11 (
pIdxS s7.2.2.1 s7.1 1 fun v12 =>
pLoad1 h8 v12 fun v13 =>
pNil v13 fun v14 =>
pFieldA v14 0 fun v15 =>
pLoad1 h8 v15 fun v16 =>
pCall c (.fn 300 [] []) [v16] h8 fun v17 h18 =>
pInt .sub s7.2.2.2.1 v17 fun v19 =>
pInt .add s7.1 (.int .i64 (.ofNat 1)) fun v20 =>
i10 (v20, s7.2.1, s7.2.2.1, v19, ()) h18 d9) (
pLeave d9 h8 fun h21 =>
some (s7.2.2.2.1, h21))) ((.int .i64 (.ofNat 0)), v6, v5, v2, ()) h []
theorem S266_eq (c : CV) (a0 : AV) (h : AH) : enterK Tryz.prog NN P266 c 266 [a0] h = S266 c a0 h := by kernel_rfl
def W266 (c : CV) (l : List AV) (h : AH) : R := match l with | [a0] => S266 c a0 h | _ => none
theorem W266_ok : WOk Tryz.prog 266 W266 := by
  intro c l h r e
  unfold W266 at e
  split at e
  · exact ⟨P266, by rw [S266_eq]; exact e⟩
  · cases e
/- slices.IndexFunc[[]quietus/api.Cell,quietus/api.Cell] -/
def P267 : Pl := (.n none .z (.n none (.n none .z (.n none (.n (some [8, 7, 1, 0]) .z .z) .z)) .z))
def S267 (c : CV) (a0 a1 : AV) (h : AH) : R :=
pLenS a0 fun v0 =>
loopC (σ := AV × AV × AV × AV × Unit) NN (fun i4 s1 h2 d3 =>
pInt .lss s1.1 s1.2.1 fun v5 =>
pCond v5 (
pIdxS s1.2.2.2.1 s1.1 2 fun v6 =>
pLoadN h2 v6 2 fun v7 =>
pCall c s1.2.2.1 [v7] h2 fun v8 h9 =>
pCond v8 (
pLeave d3 h9 fun h10 =>
some (s1.1, h10)) (
pInt .add s1.1 (.int .i64 (.ofNat 1)) fun v11 =>
i4 (v11, s1.2.1, s1.2.2.1, s1.2.2.2.1, ()) h9 d3)) (
pLeave d3 h2 fun h12 =>
some ((.int .i64 (.negSucc 0)), h12))) ((.int .i64 (.ofNat 0)), v0, a1, a0, ()) h []
theorem S267_eq (c : CV) (a0 a1 : AV) (h : AH) : enterK Tryz.prog NN P267 c 267 [a0, a1] h = S267 c a0 a1 h := by kernel_rfl
def W267 (c : CV) (l : List AV) (h : AH) : R := match l with | [a0, a1] => S267 c a0 a1 h | _ => none
theorem W267_ok : WOk Tryz.prog 267 W267 := by
  intro c l h r e
  unfold W267 at e
  split at e
  · exact ⟨P267, by rw [S267_eq]; exact e⟩
  · cases e
/- (*quietus/writes.Writes).find$1 -/
def P268 : Pl := .z
def S268 (_ : CV) (a0 a1 : AV) (h : AH) : R :=
pBox h 133 a0 fun v0 h1 =>
pFieldA v0 0 fun v2 =>
pLoad1 h1 v2 fun v3 =>
pLoad1 h1 a1 fun v4 =>
pInt .eql v3 v4 fun v5 =>
some (v5, h1)
theorem S268_eq (c : CV) (a0 a1 : AV) (h : AH) : enterK Tryz.prog NN P268 c 268 [a0, a1] h = S268 c a0 a1 h := by kernel_rfl
def W268 (c : CV) (l : List AV) (h : AH) : R := match l with | [a0, a1] => S268 c a0 a1 h | _ => none
theorem W268_ok : WOk Tryz.prog 268 W268 := by
  intro c l h r e
  unfold W268 at e
  split at e
  · exact ⟨P268, by rw [S268_eq]; exact e⟩
  · cases e
/- slices.siftDownOrdered[int] -/
def P269 : Pl := (.n none .z (.n none (.n (some [8, 3, 2, 0]) (.n none (.n none .z (.n none .z (.n (some [9, 8, 3, 2, 0]) (.n none (.r [[35, 21, 9, 8, 3, 2, 0]]) .z) .z))) .z) .z) .z))
def S269 (c : CV) (a0 a1 a2 a3 : AV) (h : AH) : R :=
loopC (σ := AV × AV × AV × AV × Unit) NN (fun i3 s0 h1 d2 =>
pInt .mul (.int .i64 (.ofNat 2)) s0.1 fun v4 =>
pInt .add v4 (.int .i64 (.ofNat 1)) fun v5 =>
pInt .geq v5 s0.2.2.1 fun v6 =>
pCond v6 (
pLeave d2 h1 fun h7 =>
some ((.tup []), h7)) (
joinC (α := AV × AV × AV × AV × AV × Unit → AH → List Nat → R) (fun s8 h9 d10 =>
pInt .add s8.2.2.1 s8.2.1 fun v12 =>
pIdxS s8.2.2.2.2.1 v12 1 fun v13 =>
pLoad1 h9 v13 fun v14 =>
pInt .add s8.2.2.1 s8.1 fun v15 =>
pIdxS s8.2.2.2.2.1 v15 1 fun v16 =>
pLoad1 h9 v16 fun v17 =>
pCall c (.fn 208 [] []) [v14, v17] h9 fun v18 h19 =>
pUn .not v18 fun v20 =>
pCond v20 (
pLeave d10 h19 fun h21 =>
some ((.tup []), h21)) (
pInt .add s8.2.2.1 s8.2.1 fun v22 =>
pInt .add s8.2.2.1 s8.1 fun v23 =>
pInt .add s8.2.2.1 s8.1 fun v24 =>
pIdxS s8.2.2.2.2.1 v24 1 fun v25 =>
pLoad1 h19 v25 fun v26 =>
pInt .add s8.2.2.1 s8.2.1 fun v27 =>
pIdxS s8.2.2.2.2.1 v27 1 fun v28 =>
pLoad1 h19 v28 fun v29 =>
pIdxS s8.2.2.2.2.1 v22 1 fun v30 =>
pStore h19 v30 v26 1 fun h31 =>
pIdxS s8.2.2.2.2.1 v23 1 fun v32 =>
pStore h31 v32 v29 1 fun h33 =>
i3 (s8.1, s8.2.2.1, s8.2.2.2.1, s8.2.2.2.2.1, ()) h33 d10)) fun j11 =>
pInt .add v5 (.int .i64 (.ofNat 1)) fun v34 =>
pInt .lss v34 s0.2.2.1 fun v35 =>
joinC (α := AV × AV × AV × AV × AV × AV × AV × Unit → AH → R) (fun s36 h37 =>
pPick s36.2.1 s36.1 (.bool false) fun v39 =>
pCond v39 (
pInt .add s36.2.2.1 (.int .i64 (.ofNat 1)) fun v40 =>
j11 (v40, s36.2.2.2.1, s36.2.2.2.2.1, s36.2.2.2.2.2.1, s36.2.2.2.2.2.2.1, ()) h37 d2) (
j11 (s36.2.2.1, s36.2.2.2.1, s36.2.2.2.2.1, s36.2.2.2.2.2.1, s36.2.2.2.2.2.2.1, ()) h37 d2)) fun j38 =>
pWant v35 true (
pInt .add s0.2.1 v5 fun v41 =>
pIdxS s0.2.2.2.1 v41 1 fun v42 =>
pLoad1 h1 v42 fun v43 =>
pInt .add s0.2.1 v5 fun v44 =>
pInt .add v44 (.int .i64 (.ofNat 1)) fun v45 =>
pIdxS s0.2.2.2.1 v45 1 fun v46 =>
pLoad1 h1 v46 fun v47 =>
pCall c (.fn 208 [] []) [v43, v47] h1 fun v48 h49 =>
j38 (v48, v35, v5, s0.1, s0.2.1, s0.2.2.1, s0.2.2.2.1, ()) h49) (
j38 (.undef, v35, v5, s0.1, s0.2.1, s0.2.2.1, s0.2.2.2.1, ()) h1))) (a1, a3, a2, a0, ()) h []
theorem S269_eq (c : CV) (a0 a1 a2 a3 : AV) (h : AH) : enterK Tryz.prog NN P269 c 269 [a0, a1, a2, a3] h = S269 c a0 a1 a2 a3 h := by kernel_rfl
def W269 (c : CV) (l : List AV) (h : AH) : R := match l with | [a0, a1, a2, a3] => S269 c a0 a1 a2 a3 h | _ => none
theorem W269_ok : WOk Tryz.prog 269 W269 := by
  intro c l h r e
  unfold W269 at e
  split at e
  · exact ⟨P269, by rw [S269_eq]; exact e⟩
  · cases e
/- slices.nextPowerOfTwo -/
def P270 : Pl := .z
def S270 (c : CV) (a0 : AV) (h : AH) : R :=
pConvI .u64 a0 fun v0 =>
pCall c (.fn 163 [] []) [v0] h fun v1 h2 =>
pShift .shl (.int .u64 (.ofNat 1)) v1 fun v3 =>
some (v3, h2)
theorem S270_eq (c : CV) (a0 : AV) (h : AH) : enterK Tryz.prog NN P270 c 270 [a0] h = S270 c a0 h := by kernel_rfl
def W270 (c : CV) (l : List AV) (h : AH) : R := match l with | [a0] => S270 c a0 h | _ => none
theorem W270_ok : WOk Tryz.prog 270 W270 := by
  intro c l h r e
  unfold W270 at e
  split at e
  · exact ⟨P270, by rw [S270_eq]; exact e⟩
  · cases e
/- (*slices.xorshift).Next -/
def P271 : Pl := .z
def S271 (_ : CV) (a0 : AV) (h : AH) : R :=
pNil a0 fun v0 =>
pLoad1 h v0 fun v1 =>
pNil a0 fun v2 =>
pLoad1 h v2 fun v3 =>
pShift .shl v3 (.int .u64 (.ofNat 13)) fun v4 =>
pInt .xor v1 v4 fun v5 =>
pNil a0 fun v6 =>
pStore h v6 v5 1 fun h7 =>
pNil a0 fun v8 =>
pLoad1 h7 v8 fun v9 =>
pNil a0 fun v10 =>
pLoad1 h7 v10 fun v11 =>
pShift .shr v11 (.int .u64 (.ofNat 7)) fun v12 =>
pInt .xor v9 v12 fun v13 =>
pNil a0 fun v14 =>
pStore h7 v14 v13 1 fun h15 =>
pNil a0 fun v16 =>
pLoad1 h15 v16 fun v17 =>
pNil a0 fun v18 =>
pLoad1 h15 v18 fun v19 =>
pShift .shl v19 (.int .u64 (.ofNat 17)) fun v20 =>
pInt .xor v17 v20 fun v21 =>
pNil a0 fun v22 =>
pStore h15 v22 v21 1 fun h23 =>
pNil a0 fun v24 =>
pLoad1 h23 v24 fun v25 =>
some (v25, h23)
theorem S271_eq (c : CV) (a0 : AV) (h : AH) : enterK Tryz.prog NN P271 c 271 [a0] h = S271 c a0 h := by kernel_rfl
def W271 (c : CV) (l : List AV) (h : AH) : R := match l with | [a0] => S271 c a0 h | _ => none
theorem W271_ok : WOk Tryz.prog 271 W271 := by
  intro c l h r e
  unfold W271 at e
  split at e
  · exact ⟨P271, by rw [S271_eq]; exact e⟩
  · cases e
/- slices.medianAdjacentOrdered[int] -/
def P272 : Pl := .z
def S272 (c : CV) (a0 a1 a2 : AV) (h : AH) : R :=
pInt .sub a1 (.int .i64 (.ofNat 1)) fun v0 =>
pInt .add a1 (.int .i64 (.ofNat 1)) fun v1 =>
pCall c (.fn 273 [] []) [a0, v0, a1, v1, a2] h fun v2 h3 =>
some (v2, h3)
theorem S272_eq (c : CV) (a0 a1 a2 : AV) (h : AH) : enterK Tryz.prog NN P272 c 272 [a0, a1, a2] h = S272 c a0 a1 a2 h := by kernel_rfl
def W272 (c : CV) (l : List AV) (h : AH) : R := match l with | [a0, a1, a2] => S272 c a0 a1 a2 h | _ => none
theorem W272_ok : WOk Tryz.prog 272 W272 := by
  intro c l h r e
  unfold W272 at e
  split at e
  · exact ⟨P272, by rw [S272_eq]; exact e⟩
  · cases e
/- slices.medianOrdered[int] -/
def P273 : Pl := .z
def S273 (c : CV) (a0 a1 a2 a3 a4 : AV) (h : AH) : R :=
pCall c (.fn 301 [] []) [a0, a1, a2, a4] h fun v0 h1 =>
pExtract v0 0 fun v2 =>
pExtract v0 1 fun v3 =>
pCall c (.fn 301 [] []) [a0, v3, a3, a4] h1 fun v4 h5 =>
pExtract v4 0 fun v6 =>
pExtract v4 1 fun _ =>
pCall c (.fn 301 [] []) [a0, v2, v6, a4] h5 fun v8 h9 =>
pExtract v8 0 fun _ =>
pExtract v8 1 fun v11 =>
some (v11, h9)
theorem S273_eq (c : CV) (a0 a1 a2 a3 a4 : AV) (h : AH) : enterK Tryz.prog NN P273 c 273 [a0, a1, a2, a3, a4] h = S273 c a0 a1 a2 a3 a4 h := by kernel_rfl
def W273 (c : CV) (l : List AV) (h : AH) : R := match l with | [a0, a1, a2, a3, a4] => S273 c a0 a1 a2 a3 a4 h | _ => none
theorem W273_ok : WOk Tryz.prog 273 W273 := by
  intro c l h r e
  unfold W273 at e
  split at e
  · exact ⟨P273, by rw [S273_eq]; exact e⟩
  · cases e
/- cmp.isNaN[int] -/
def P274 : Pl := .z
def S274 (_ : CV) (a0 : AV) (h : AH) : R :=
pInt .neq a0 a0 fun v0 =>
some (v0, h)
theorem S274_eq (c : CV) (a0 : AV) (h : AH) : enterK Tryz.prog NN P274 c 274 [a0] h = S274 c a0 h := by kernel_rfl
def W274 (c : CV) (l : List AV) (h : AH) : R := match l with | [a0] => S274 c a0 h | _ => none
theorem W274_ok : WOk Tryz.prog 274 W274 := by
  intro c l h r e
  unfold W274 at e
  split at e
  · exact ⟨P274, by rw [S274_eq]; exact e⟩
  · cases e
/- internal/strconv.log10Pow2 -/
def P275 : Pl := .z
def S275 (_ : CV) (a0 : AV) (h : AH) : R :=
pInt .mul a0 (.int .i64 (.ofNat 78913)) fun v0 =>
pShift .shr v0 (.int .u64 (.ofNat 18)) fun v1 =>
some (v1, h)
theorem S275_eq (c : CV) (a0 : AV) (h : AH) : enterK Tryz.prog NN P275 c 275 [a0] h = S275 c a0 h := by kernel_rfl
def W275 (c : CV) (l : List AV) (h : AH) : R := match l with | [a0] => S275 c a0 h | _ => none
theorem W275_ok : WOk Tryz.prog 275 W275 := by
  intro c l h r e
  unfold W275 at e
  split at e
  · exact ⟨P275, by rw [S275_eq]; exact e⟩
  · cases e
/- internal/strconv.bool2[int] -/
def P276 : Pl := .z
def S276 (_ : CV) (a0 : AV) (h : AH) : R :=
pCond a0 (
some ((.int .i64 (.ofNat 1)), h)) (
some ((.int .i64 (.ofNat 0)), h))
theorem S276_eq (c : CV) (a0 : AV) (h : AH) : enterK Tryz.prog NN P276 c 276 [a0] h = S276 c a0 h := by kernel_rfl
def W276 (c : CV) (l : List AV) (h : AH) : R := match l with | [a0] => S276 c a0 h | _ => none
theorem W276_ok : WOk Tryz.prog 276 W276 := by
  intro c l h r e
  unfold W276 at e
  split at e
  · exact ⟨P276, by rw [S276_eq]; exact e⟩
  · cases e
/- internal/strconv.isPowerOfTwo -/
def P277 : Pl := .z
def S277 (_ : CV) (a0 : AV) (h : AH) : R :=
pInt .sub a0 (.int .i64 (.ofNat 1)) fun v0 =>
pInt .and a0 v0 fun v1 =>
pInt .eql v1 (.int .i64 (.ofNat 0)) fun v2 =>
some (v2, h)
theorem S277_eq (c : CV) (a0 : AV) (h : AH) : enterK Tryz.prog NN P277 c 277 [a0] h = S277 c a0 h := by kernel_rfl
def W277 (c : CV) (l : List AV) (h : AH) : R := match l with | [a0] => S277 c a0 h | _ => none
theorem W277_ok : WOk Tryz.prog 277 W277 := by
  intro c l h r e
  unfold W277 at e
  split at e
  · exact ⟨P277, by rw [S277_eq]; exact e⟩
  · cases e
/- math/bits.TrailingZeros -/
def P278 : Pl := .z
def S278 (c : CV) (a0 : AV) (h : AH) : R :=
pCond (.bool false) (
pConvI .u32 a0 fun v0 =>
pCall c (.fn 302 [] []) [v0] h fun v1 h2 =>
some (v1, h2)) (
pCall c (.fn 303 [] []) [a0] h fun v3 h4 =>
some (v3, h4))
theorem S278_eq (c : CV) (a0 : AV) (h : AH) : enterK Tryz.prog NN P278 c 278 [a0] h = S278 c a0 h := by kernel_rfl
def W278 (c : CV) (l : List AV) (h : AH) : R := match l with | [a0] => S278 c a0 h | _ => none
theorem W278_ok : WOk Tryz.prog 278 W278 := by
  intro c l h r e
  unfold W278 at e
  split at e
  · exact ⟨P278, by rw [S278_eq]; exact e⟩
  · cases e
/- quietus/code.named -/
def P279 : Pl := (.n none .z (.n none (.n none (.r [[11, 7, 1, 0]]) .z) .z))
def S279 (_ : CV) (a0 a1 : AV) (h : AH) : R :=
pInt .lss a1 (.int .i64 (.ofNat 0)) fun v0 =>
joinC (α := AV × AV × AV × AV × Unit → AH → R) (fun s1 h2 =>
pPick s1.2.1 (.bool true) s1.1 fun v4 =>
pCond v4 (
some ((.str []), h2)) (
pIdxS s1.2.2.2.1 s1.2.2.1 1 fun v5 =>
pLoad1 h2 v5 fun v6 =>
some (v6, h2))) fun j3 =>
pWant v0 false (
pLenS a0 fun v7 =>
pInt .geq a1 v7 fun v8 =>
j3 (v8, v0, a1, a0, ()) h) (
j3 (.undef, v0, a1, a0, ()) h)
theorem S279_eq (c : CV) (a0 a1 : AV) (h : AH) : enterK Tryz.prog NN P279 c 279 [a0, a1] h = S279 c a0 a1 h := by kernel_rfl
def W279 (c : CV) (l : List AV) (h : AH) : R := match l with | [a0, a1] => S279 c a0 a1 h | _ => none
theorem W279_ok : WOk Tryz.prog 279 W279 := by
  intro c l h r e
  unfold W279 at e
  split at e
  · exact ⟨P279, by rw [S279_eq]; exact e⟩
  · cases e
/- quietus/code.names -/
def P280 : Pl := .z
def S280 (_ : CV) (h : AH) : R :=
pBuildS h 9 [(.str [])] 24 [(0, 1, (.str [])), (1, 1, (.str [115, 101, 116])), (2, 1, (.str [109, 111, 118, 101])), (3, 1, (.str [97, 100, 100])), (4, 1, (.str [115, 117, 98])), (5, 1, (.str [109, 117, 108])), (6, 1, (.str [108, 101, 115, 115])), (7, 1, (.str [101, 113, 117, 97, 108])), (8, 1, (.str [108, 111, 97, 100])), (9, 1, (.str [115, 116, 111, 114, 101])), (10, 1, (.str [97, 108, 108, 111, 99])), (11, 1, (.str [102, 114, 101, 101])), (12, 1, (.str [106, 117, 109, 112])), (13, 1, (.str [122, 101, 114, 111])), (14, 1, (.str [111, 112, 101, 110])), (15, 1, (.str [99, 108, 111, 115, 101])), (16, 1, (.str [117, 110, 100, 111])), (17, 1, (.str [101, 105, 116, 104, 101, 114])), (18, 1, (.str [111, 114])), (19, 1, (.str [100, 111, 110, 101])), (20, 1, (.str [114, 101, 116, 114, 121])), (21, 1, (.str [101, 109, 105, 116])), (22, 1, (.str [102, 97, 105, 108])), (23, 1, (.str [99, 97, 108, 108]))] fun v0 h1 =>
some (v0, h1)
theorem S280_eq (c : CV) (h : AH) : enterK Tryz.prog NN P280 c 280 [] h = S280 c h := by kernel_rfl
def W280 (c : CV) (l : List AV) (h : AH) : R := match l with | [] => S280 c h | _ => none
theorem W280_ok : WOk Tryz.prog 280 W280 := by
  intro c l h r e
  unfold W280 at e
  split at e
  · exact ⟨P280, by rw [S280_eq]; exact e⟩
  · cases e
/- quietus/draft.of -/
def P281 : Pl := (.n none .z (.n none .z (.n none (.n none .z (.n none (.n (some [14, 13, 12, 3, 0]) .z .z) .z)) (.n none (.n none .z (.n none (.n (some [28, 27, 26, 3]) .z .z) .z)) .z))))
def S281 (c : CV) (a0 : AV) (h : AH) : R :=
pCall c (.fn 155 [] []) [a0] h fun v0 h1 =>
pCall c (.fn 113 [] []) [v0, (.int .i64 (.ofNat 96))] h1 fun v2 h3 =>
pCall c (.fn 73 [] []) [a0] h3 fun v4 h5 =>
pLenS v4 fun v6 =>
loopC (σ := AV × AV × AV × AV × AV × Unit) NN (fun i10 s7 h8 d9 =>
pInt .lss s7.1 s7.2.1 fun v11 =>
pCond v11 (
pIdxS s7.2.2.1 s7.1 2 fun v12 =>
pLoadN h8 v12 2 fun v13 =>
pBox h8 133 (.agg [(.int .i64 (.ofNat 0)), (.int .u64 (.ofNat 0))]) fun v14 h15 =>
pStore h15 v14 v13 2 fun h16 =>
pFieldA v14 0 fun v17 =>
pLoad1 h16 v17 fun v18 =>
pFieldA v14 1 fun v19 =>
pLoad1 h16 v19 fun v20 =>
pCall c (.fn 133 [] []) [s7.2.2.2.1, v18, v20] h16 fun _ h22 =>
pInt .add s7.1 (.int .i64 (.ofNat 1)) fun v23 =>
i10 (v23, s7.2.1, s7.2.2.1, s7.2.2.2.1, s7.2.2.2.2.1, ()) h22 d9) (
pCall c (.fn 89 [] []) [s7.2.2.2.2.1] h8 fun v24 h25 =>
pLenS v24 fun v26 =>
loopC (σ := AV × AV × AV × AV × Unit) NN (fun i30 s27 h28 d29 =>
pInt .lss s27.1 s27.2.1 fun v31 =>
pCond v31 (
pIdxS s27.2.2.1 s27.1 2 fun v32 =>
pLoadN h28 v32 2 fun v33 =>
pBox h28 133 (.agg [(.int .i64 (.ofNat 0)), (.int .u64 (.ofNat 0))]) fun v34 h35 =>
pStore h35 v34 v33 2 fun h36 =>
pFieldA v34 0 fun v37 =>
pLoad1 h36 v37 fun v38 =>
pFieldA v34 1 fun v39 =>
pLoad1 h36 v39 fun v40 =>
pCall c (.fn 133 [] []) [s27.2.2.2.1, v38, v40] h36 fun _ h42 =>
pInt .add s27.1 (.int .i64 (.ofNat 1)) fun v43 =>
i30 (v43, s27.2.1, s27.2.2.1, s27.2.2.2.1, ()) h42 d29) (
pLeave d29 h28 fun h44 =>
some (s27.2.2.2.1, h44))) ((.int .i64 (.ofNat 0)), v26, v24, s7.2.2.2.1, ()) h25 d9)) ((.int .i64 (.ofNat 0)), v6, v4, v2, a0, ()) h5 []
theorem S281_eq (c : CV) (a0 : AV) (h : AH) : enterK Tryz.prog NN P281 c 281 [a0] h = S281 c a0 h := by kernel_rfl
def W281 (c : CV) (l : List AV) (h : AH) : R := match l with | [a0] => S281 c a0 h | _ => none
theorem W281_ok : WOk Tryz.prog 281 W281 := by
  intro c l h r e
  unfold W281 at e
  split at e
  · exact ⟨P281, by rw [S281_eq]; exact e⟩
  · cases e
/- (*quietus/draft.Draft).Step -/
def P282 : Pl := (.n none .z (.n none .z (.n (some [0]) .z .z)))
def S282 (c : CV) (a0 : AV) (h : AH) : R :=
pNil a0 fun v0 =>
pFieldA v0 2 fun v1 =>
pLoad1 h v1 fun v2 =>
pInt .add v2 (.int .i64 (.ofNat 1)) fun v3 =>
pNil a0 fun v4 =>
pFieldA v4 2 fun v5 =>
pStore h v5 v3 1 fun h6 =>
joinC (α := AV × Unit → AH → List Nat → R) (fun s7 h8 d9 =>
pCall c (.fn 227 [] []) [s7.1] h8 fun v11 h12 =>
pLeave d9 h12 fun h13 =>
some (v11, h13)) fun j10 =>
pNil a0 fun v14 =>
pFieldA v14 2 fun v15 =>
pLoad1 h6 v15 fun v16 =>
pInt .gtr v16 (.int .i64 (.ofNat 2048)) fun v17 =>
pCond v17 (
pCall c (.fn 284 [] []) [a0, (.int .i64 (.ofNat 2))] h6 fun _ h19 =>
j10 (a0, ()) h19 []) (
j10 (a0, ()) h6 [])
theorem S282_eq (c : CV) (a0 : AV) (h : AH) : enterK Tryz.prog NN P282 c 282 [a0] h = S282 c a0 h := by kernel_rfl
def W282 (c : CV) (l : List AV) (h : AH) : R := match l with | [a0] => S282 c a0 h | _ => none
theorem W282_ok : WOk Tryz.prog 282 W282 := by
  intro c l h r e
  unfold W282 at e
  split at e
  · exact ⟨P282, by rw [S282_eq]; exact e⟩
  · cases e
/- (*quietus/draft.Draft).Place -/
def P283 : Pl := .z
def S283 (c : CV) (a0 a1 : AV) (h : AH) : R :=
pCall c (.fn 233 [] []) [a0, a1] h fun v0 h1 =>
pCall c (.fn 304 [] []) [a0, v0] h1 fun v2 h3 =>
some (v2, h3)
theorem S283_eq (c : CV) (a0 a1 : AV) (h : AH) : enterK Tryz.prog NN P283 c 283 [a0, a1] h = S283 c a0 a1 h := by kernel_rfl
def W283 (c : CV) (l : List AV) (h : AH) : R := match l with | [a0, a1] => S283 c a0 a1 h | _ => none
theorem W283_ok : WOk Tryz.prog 283 W283 := by
  intro c l h r e
  unfold W283 at e
  split at e
  · exact ⟨P283, by rw [S283_eq]; exact e⟩
  · cases e
/- (*quietus/draft.Draft).Fail -/
def P284 : Pl := .z
def S284 (c : CV) (a0 a1 : AV) (h : AH) : R :=
pCall c (.fn 227 [] []) [a0] h fun v0 h1 =>
pCond v0 (
pNil a0 fun v2 =>
pFieldA v2 1 fun v3 =>
pStore h1 v3 a1 1 fun h4 =>
some ((.tup []), h4)) (
some ((.tup []), h1))
theorem S284_eq (c : CV) (a0 a1 : AV) (h : AH) : enterK Tryz.prog NN P284 c 284 [a0, a1] h = S284 c a0 a1 h := by kernel_rfl
def W284 (c : CV) (l : List AV) (h : AH) : R := match l with | [a0, a1] => S284 c a0 a1 h | _ => none
theorem W284_ok : WOk Tryz.prog 284 W284 := by
  intro c l h r e
  unfold W284 at e
  split at e
  · exact ⟨P284, by rw [S284_eq]; exact e⟩
  · cases e
/- quietus/table.chain -/
def P285 : Pl := .z
def S285 (_ : CV) (a0 a1 : AV) (h : AH) : R :=
pInt .mul a0 (.int .u64 (.ofNat 11400714819323198485)) fun v0 =>
pShift .shr v0 (.int .u64 (.ofNat 60)) fun v1 =>
pConvI .i64 v1 fun v2 =>
pInt .sub a1 (.int .i64 (.ofNat 1)) fun v3 =>
pInt .and v2 v3 fun v4 =>
some (v4, h)
theorem S285_eq (c : CV) (a0 a1 : AV) (h : AH) : enterK Tryz.prog NN P285 c 285 [a0, a1] h = S285 c a0 a1 h := by kernel_rfl
def W285 (c : CV) (l : List AV) (h : AH) : R := match l with | [a0, a1] => S285 c a0 a1 h | _ => none
theorem W285_ok : WOk Tryz.prog 285 W285 := by
  intro c l h r e
  unfold W285 at e
  split at e
  · exact ⟨P285, by rw [S285_eq]; exact e⟩
  · cases e
/- (*quietus/table.table).each -/
def P286 : Pl := (.n none .z (.n none (.n (some [11, 10, 1, 0]) (.n none .z (.n none .z (.n none (.n none (.n none .z (.n none .z (.n none (.n (some [11, 10, 5, 1, 0]) (.n none (.n none (.r [[32, 27, 11, 10, 5, 1, 0]]) .z) .z) .z) .z))) .z) .z))) .z) .z))
def S286 (c : CV) (a0 a1 : AV) (h : AH) : R :=
pNil a0 fun v0 =>
pFieldA v0 2 fun v1 =>
pLoad1 h v1 fun v2 =>
loopC (σ := AV × AV × AV × AV × Unit) NN (fun i6 s3 h4 d5 =>
pInt .lss s3.1 s3.2.1 fun v7 =>
pCond v7 (
pNil s3.2.2.2.1 fun v8 =>
pFieldA v8 0 fun v9 =>
pLoad1 h4 v9 fun v10 =>
pNil s3.2.2.2.1 fun v11 =>
pFieldA v11 3 fun v12 =>
pLoad1 h4 v12 fun v13 =>
pInt .add v13 s3.1 fun v14 =>
pCall c (.fn 283 [] []) [v10, v14] h4 fun v15 h16 =>
loopC (σ := AV × AV × AV × AV × AV × Unit) NN (fun i20 s17 h18 d19 =>
pInt .neq s17.2.2.1 (.int .i64 (.ofNat 0)) fun v21 =>
joinC (α := AV × AV × AV × AV × AV × AV × AV × Unit → AH → R) (fun s22 h23 =>
pPick s22.2.1 s22.1 (.bool false) fun v25 =>
pCond v25 (
pNil s22.2.2.2.2.2.2.1 fun v26 =>
pFieldA v26 0 fun v27 =>
pLoad1 h23 v27 fun v28 =>
pInt .add s22.2.2.2.2.1 (.int .i64 (.ofNat 2)) fun v29 =>
pCall c (.fn 283 [] []) [v28, v29] h23 fun v30 h31 =>
pCall c s22.2.2.2.2.2.1 [s22.2.2.2.2.1] h31 fun _ h33 =>
i20 (s22.2.2.1, s22.2.2.2.1, v30, s22.2.2.2.2.2.1, s22.2.2.2.2.2.2.1, ()) h33 d19) (
pInt .add s22.2.2.1 (.int .i64 (.ofNat 1)) fun v34 =>
i6 (v34, s22.2.2.2.1, s22.2.2.2.2.2.1, s22.2.2.2.2.2.2.1, ()) h23 d19)) fun j24 =>
pWant v21 true (
pNil s17.2.2.2.2.1 fun v35 =>
pFieldA v35 0 fun v36 =>
pLoad1 h18 v36 fun v37 =>
pCall c (.fn 282 [] []) [v37] h18 fun v38 h39 =>
j24 (v38, v21, s17.1, s17.2.1, s17.2.2.1, s17.2.2.2.1, s17.2.2.2.2.1, ()) h39) (
j24 (.undef, v21, s17.1, s17.2.1, s17.2.2.1, s17.2.2.2.1, s17.2.2.2.2.1, ()) h18)) (s3.1, s3.2.1, v15, s3.2.2.1, s3.2.2.2.1, ()) h16 d5) (
pLeave d5 h4 fun h40 =>
some ((.tup []), h40))) ((.int .i64 (.ofNat 0)), v2, a1, a0, ()) h []
theorem S286_eq (c : CV) (a0 a1 : AV) (h : AH) : enterK Tryz.prog NN P286 c 286 [a0, a1] h = S286 c a0 a1 h := by kernel_rfl
def W286 (c : CV) (l : List AV) (h : AH) : R := match l with | [a0, a1] => S286 c a0 a1 h | _ => none
theorem W286_ok : WOk Tryz.prog 286 W286 := by
  intro c l h r e
  unfold W286 at e
  split at e
  · exact ⟨P286, by rw [S286_eq]; exact e⟩
  · cases e
/- (*quietus/table.table).grow$1 -/
def P287 : Pl := (.n none (.r [[5, 3, 1, 0]]) .z)
def S287 (c : CV) (a0 a1 a2 a3 : AV) (h : AH) : R :=
joinC (α := AV × AV × AV × AV × Unit → AH → R) (fun s0 h1 =>
pLoad1 h1 s0.2.2.1 fun v3 =>
pNil v3 fun v4 =>
pFieldA v4 0 fun v5 =>
pLoad1 h1 v5 fun v6 =>
pInt .add s0.2.2.2.1 (.int .i64 (.ofNat 2)) fun v7 =>
pLoad1 h1 s0.2.1 fun v8 =>
pIdxS v8 s0.1 1 fun v9 =>
pLoad1 h1 v9 fun v10 =>
pCall c (.fn 231 [] []) [v6, v7, v10] h1 fun _ h12 =>
pLoad1 h12 s0.2.1 fun v13 =>
pIdxS v13 s0.1 1 fun v14 =>
pStore h12 v14 s0.2.2.2.1 1 fun h15 =>
some ((.tup []), h15)) fun j2 =>
pLoad1 h a1 fun v16 =>
pNil v16 fun v17 =>
pFieldA v17 0 fun v18 =>
pLoad1 h v18 fun v19 =>
pInt .add a0 (.int .i64 (.ofNat 0)) fun v20 =>
pCall c (.fn 233 [] []) [v19, v20] h fun v21 h22 =>
pLoad1 h22 a2 fun v23 =>
pCall c (.fn 285 [] []) [v21, v23] h22 fun v24 h25 =>
pChk a2 none v23 h h22 h.nx <|
j2 (v24, a3, a1, a0, ()) h25
theorem S287_eq (c : CV) (a0 a1 a2 a3 : AV) (h : AH) : enterK Tryz.prog NN P287 c 287 [a0, a1, a2, a3] h = S287 c a0 a1 a2 a3 h := by kernel_rfl
def W287 (c : CV) (l : List AV) (h : AH) : R := match l with | [a0, a1, a2, a3] => S287 c a0 a1 a2 a3 h | _ => none
theorem W287_ok : WOk Tryz.prog 287 W287 := by
  intro c l h r e
  unfold W287 at e
  split at e
  · exact ⟨P287, by rw [S287_eq]; exact e⟩
  · cases e
/- quietus/queue.Push$1 -/
def P288 : Pl := (.n none .z (.n (some [5, 4, 2, 0]) .z (.n none .z (.n none .z (.n none .z (.n (some [6, 4, 0]) .z .z))))))
def S288 (c : CV) (a0 a1 a2 : AV) (h : AH) : R :=
pLoad1 h a1 fun v0 =>
pCall c (.fn 283 [] []) [a0, v0] h fun v1 h2 =>
joinC (α := AV × AV × AV × AV × Unit → AH → List Nat → R) (fun s3 h4 d5 =>
pCall c (.fn 229 [] []) [s3.2.2.2.1, (.int .i64 (.ofNat 2))] h4 fun v7 h8 =>
pInt .add v7 (.int .i64 (.ofNat 0)) fun v9 =>
pLoad1 h8 s3.2.2.1 fun v10 =>
pCall c (.fn 230 [] []) [s3.2.2.2.1, v9, v10] h8 fun _ h12 =>
pInt .add v7 (.int .i64 (.ofNat 1)) fun v13 =>
pCall c (.fn 231 [] []) [s3.2.2.2.1, v13, (.int .i64 (.ofNat 0))] h12 fun _ h15 =>
joinC (α := AV × AV × AV × Unit → AH → List Nat → R) (fun s16 h17 d18 =>
pInt .add s16.2.1 (.int .i64 (.ofNat 1)) fun v20 =>
pCall c (.fn 231 [] []) [s16.2.2.1, v20, s16.1] h17 fun _ h22 =>
pLeave d18 h22 fun h23 =>
some ((.tup []), h23)) fun j19 =>
pInt .neq s3.1 (.int .i64 (.ofNat 0)) fun v24 =>
pCond v24 (
pInt .add s3.2.1 (.int .i64 (.ofNat 1)) fun v25 =>
pCall c (.fn 283 [] []) [s3.2.2.2.1, v25] h15 fun v26 h27 =>
pInt .add v26 (.int .i64 (.ofNat 1)) fun v28 =>
pCall c (.fn 231 [] []) [s3.2.2.2.1, v28, v7] h27 fun _ h30 =>
j19 (v7, s3.2.1, s3.2.2.2.1, ()) h30 d5) (
pInt .add s3.2.1 (.int .i64 (.ofNat 0)) fun v31 =>
pCall c (.fn 231 [] []) [s3.2.2.2.1, v31, v7] h15 fun _ h33 =>
j19 (v7, s3.2.1, s3.2.2.2.1, ()) h33 d5)) fun j6 =>
pInt .neq v1 (.int .i64 (.ofNat 0)) fun v34 =>
pCond v34 (
pInt .add v1 (.int .i64 (.ofNat 0)) fun v35 =>
pCall c (.fn 283 [] []) [a0, v35] h2 fun v36 h37 =>
j6 (v36, v1, a2, a0, ()) h37 []) (
pCall c (.fn 227 [] []) [a0] h2 fun v38 h39 =>
pCond v38 (
pCall c (.fn 229 [] []) [a0, (.int .i64 (.ofNat 2))] h39 fun v40 h41 =>
pLoad1 h41 a1 fun v42 =>
pCall c (.fn 231 [] []) [a0, v42, v40] h41 fun _ h44 =>
j6 ((.int .i64 (.ofNat 0)), v40, a2, a0, ()) h44 []) (
j6 ((.int .i64 (.ofNat 0)), v1, a2, a0, ()) h39 []))
theorem S288_eq (c : CV) (a0 a1 a2 : AV) (h : AH) : enterK Tryz.prog NN P288 c 288 [a0, a1, a2] h = S288 c a0 a1 a2 h := by kernel_rfl
def W288 (c : CV) (l : List AV) (h : AH) : R := match l with | [a0, a1, a2] => S288 c a0 a1 a2 h | _ => none
theorem W288_ok : WOk Tryz.prog 288 W288 := by
  intro c l h r e
  unfold W288 at e
  split at e
  · exact ⟨P288, by rw [S288_eq]; exact e⟩
  · cases e
/- quietus/queue.Take$1 -/
def P289 : Pl := .z
def S289 (c : CV) (a0 a1 a2 a3 : AV) (h : AH) : R :=
pLoad1 h a1 fun v0 =>
pCall c (.fn 283 [] []) [a0, v0] h fun v1 h2 =>
pInt .eql v1 (.int .i64 (.ofNat 0)) fun v3 =>
pCond v3 (
some ((.tup []), h2)) (
pInt .add v1 (.int .i64 (.ofNat 0)) fun v4 =>
pCall c (.fn 283 [] []) [a0, v4] h2 fun v5 h6 =>
pInt .eql v5 (.int .i64 (.ofNat 0)) fun v7 =>
pCond v7 (
some ((.tup []), h6)) (
pInt .add v5 (.int .i64 (.ofNat 0)) fun v8 =>
pCall c (.fn 233 [] []) [a0, v8] h6 fun v9 h10 =>
pStore h10 a2 v9 1 fun h11 =>
pStore h11 a3 (.bool true) 1 fun h12 =>
pInt .add v1 (.int .i64 (.ofNat 0)) fun v13 =>
pInt .add v5 (.int .i64 (.ofNat 1)) fun v14 =>
pCall c (.fn 233 [] []) [a0, v14] h12 fun v15 h16 =>
pCall c (.fn 230 [] []) [a0, v13, v15] h16 fun _ h18 =>
pCall c (.fn 234 [] []) [a0, v5] h18 fun _ h20 =>
some ((.tup []), h20)))
theorem S289_eq (c : CV) (a0 a1 a2 a3 : AV) (h : AH) : enterK Tryz.prog NN P289 c 289 [a0, a1, a2, a3] h = S289 c a0 a1 a2 a3 h := by kernel_rfl
def W289 (c : CV) (l : List AV) (h : AH) : R := match l with | [a0, a1, a2, a3] => S289 c a0 a1 a2 a3 h | _ => none
theorem W289_ok : WOk Tryz.prog 289 W289 := by
  intro c l h r e
  unfold W289 at e
  split at e
  · exact ⟨P289, by rw [S289_eq]; exact e⟩
  · cases e
/- (*quietus/tree.tree).child -/
def P290 : Pl := (.n none .z (.n none .z (.n none .z (.n none (.r [[6]]) .z))))
def S290 (c : CV) (a0 a1 a2 : AV) (h : AH) : R :=
pInt .eql a1 (.int .i64 (.ofNat 0)) fun v0 =>
pCond v0 (
pNil a0 fun v1 =>
pFieldA v1 0 fun v2 =>
pLoad1 h v2 fun v3 =>
pCall c (.fn 284 [] []) [v3, (.int .i64 (.ofNat 2))] h fun _ h5 =>
some ((.int .i64 (.ofNat 0)), h5)) (
pInt .eql a2 (.int .i64 (.ofNat 1)) fun v6 =>
pCond v6 (
pNil a0 fun v7 =>
pFieldA v7 0 fun v8 =>
pLoad1 h v8 fun v9 =>
pInt .add a1 (.int .i64 (.ofNat 3)) fun v10 =>
pCall c (.fn 283 [] []) [v9, v10] h fun v11 h12 =>
some (v11, h12)) (
joinC (α := AV × Unit → AH → R) (fun s13 h14 =>
some (s13.1, h14)) fun j15 =>
pNil a0 fun v16 =>
pFieldA v16 0 fun v17 =>
pLoad1 h v17 fun v18 =>
pNil a0 fun v19 =>
pFieldA v19 0 fun v20 =>
pLoad1 h v20 fun v21 =>
pInt .add a1 (.int .i64 (.ofNat 2)) fun v22 =>
pCall c (.fn 233 [] []) [v21, v22] h fun v23 h24 =>
pShift .shr v23 (.int .u64 (.ofNat 1)) fun v25 =>
pCall c (.fn 304 [] []) [v18, v25] h24 fun v26 h27 =>
pChk v17 none v18 h h24 h.nx <|
j15 (v26, ()) h27))
theorem S290_eq (c : CV) (a0 a1 a2 : AV) (h : AH) : enterK Tryz.prog NN P290 c 290 [a0, a1, a2] h = S290 c a0 a1 a2 h := by kernel_rfl
def W290 (c : CV) (l : List AV) (h : AH) : R := match l with | [a0, a1, a2] => S290 c a0 a1 a2 h | _ => none
theorem W290_ok : WOk Tryz.prog 290 W290 := by
  intro c l h r e
  unfold W290 at e
  split at e
  · exact ⟨P290, by rw [S290_eq]; exact e⟩
  · cases e
/- (*quietus/tree.tree).hang -/
def P291 : Pl := (.n none .z (.r [[]]))
def S291 (c : CV) (a0 a1 a2 a3 : AV) (h : AH) : R :=
pInt .eql a2 (.int .i64 (.ofNat 1)) fun v0 =>
pCond v0 (
pNil a0 fun v1 =>
pFieldA v1 0 fun v2 =>
pLoad1 h v2 fun v3 =>
pInt .add a1 (.int .i64 (.ofNat 3)) fun v4 =>
pCall c (.fn 231 [] []) [v3, v4, a3] h fun _ h6 =>
some ((.tup []), h6)) (
joinC (α := Unit → AH → R) (fun _ h8 =>
some ((.tup []), h8)) fun j9 =>
pNil a0 fun v10 =>
pFieldA v10 0 fun v11 =>
pLoad1 h v11 fun v12 =>
pInt .add a1 (.int .i64 (.ofNat 2)) fun v13 =>
pConvI .u64 a3 fun v14 =>
pShift .shl v14 (.int .u64 (.ofNat 1)) fun v15 =>
pNil a0 fun v16 =>
pFieldA v16 0 fun v17 =>
pLoad1 h v17 fun v18 =>
pInt .add a1 (.int .i64 (.ofNat 2)) fun v19 =>
pCall c (.fn 233 [] []) [v18, v19] h fun v20 h21 =>
pInt .and v20 (.int .u64 (.ofNat 1)) fun v22 =>
pInt .or v15 v22 fun v23 =>
pCall c (.fn 230 [] []) [v12, v13, v23] h21 fun _ h25 =>
pChk v11 none v12 h h21 h.nx <|
j9 (()) h25)
theorem S291_eq (c : CV) (a0 a1 a2 a3 : AV) (h : AH) : enterK Tryz.prog NN P291 c 291 [a0, a1, a2, a3] h = S291 c a0 a1 a2 a3 h := by kernel_rfl
def W291 (c : CV) (l : List AV) (h : AH) : R := match l with | [a0, a1, a2, a3] => S291 c a0 a1 a2 a3 h | _ => none
theorem W291_ok : WOk Tryz.prog 291 W291 := by
  intro c l h r e
  unfold W291 at e
  split at e
  · exact ⟨P291, by rw [S291_eq]; exact e⟩
  · cases e
/- (*quietus/tree.tree).red -/
def P292 : Pl := (.n none .z (.n none (.r [[16, 7]]) .z))
def S292 (c : CV) (a0 a1 : AV) (h : AH) : R :=
pInt .neq a1 (.int .i64 (.ofNat 0)) fun v0 =>
joinC (α := AV × AV × Unit → AH → R) (fun s1 h2 =>
pPick s1.2.1 s1.1 (.bool false) fun v4 =>
some (v4, h2)) fun j3 =>
pWant v0 true (
pNil a0 fun v5 =>
pFieldA v5 0 fun v6 =>
pLoad1 h v6 fun v7 =>
pInt .add a1 (.int .i64 (.ofNat 2)) fun v8 =>
pCall c (.fn 233 [] []) [v7, v8] h fun v9 h10 =>
pInt .and v9 (.int .u64 (.ofNat 1)) fun v11 =>
pInt .eql v11 (.int .u64 (.ofNat 1)) fun v12 =>
j3 (v12, v0, ()) h10) (
j3 (.undef, v0, ()) h)
theorem S292_eq (c : CV) (a0 a1 : AV) (h : AH) : enterK Tryz.prog NN P292 c 292 [a0, a1] h = S292 c a0 a1 h := by kernel_rfl
def W292 (c : CV) (l : List AV) (h : AH) : R := match l with | [a0, a1] => S292 c a0 a1 h | _ => none
theorem W292_ok : WOk Tryz.prog 292 W292 := by
  intro c l h r e
  unfold W292 at e
  split at e
  · exact ⟨P292, by rw [S292_eq]; exact e⟩
  · cases e
/- (*quietus/tree.tree).straight -/
def P293 : Pl := (.n none .z (.n (some [5, 0]) (.n none .z (.n none (.r [[5, 0]]) .z)) .z))
def S293 (c : CV) (a0 a1 a2 : AV) (h : AH) : R :=
pBox h 333 a1 fun v0 h1 =>
pBox h1 333 a2 fun v2 h3 =>
joinC (α := AV × AV × Unit → AH → List Nat → R) (fun s4 h5 d6 =>
pFieldA s4.1 0 fun v8 =>
pLoad1 h5 v8 fun v9 =>
pFieldA s4.1 1 fun v10 =>
pLoad1 h5 v10 fun v11 =>
pInt .sub (.int .i64 (.ofNat 1)) v11 fun v12 =>
pCall c (.fn 305 [] []) [s4.2.1, v9, v12] h5 fun v13 h14 =>
pCall c (.fn 294 [] []) [s4.2.1, v13, (.bool false)] h14 fun _ h16 =>
pFieldA s4.1 0 fun v17 =>
pLoad1 h16 v17 fun v18 =>
pCall c (.fn 294 [] []) [s4.2.1, v18, (.bool true)] h16 fun _ h20 =>
pNil s4.2.1 fun v21 =>
pFieldA v21 2 fun v22 =>
pLoad1 h20 v22 fun v23 =>
pLenS v23 fun v24 =>
pInt .sub v24 (.int .i64 (.ofNat 2)) fun v25 =>
pCall c (.fn 249 [] []) [s4.2.1, v25, v13] h20 fun _ h27 =>
pLeave d6 h27 fun h28 =>
some ((.tup []), h28)) fun j7 =>
pFieldA v0 1 fun v29 =>
pLoad1 h3 v29 fun v30 =>
pFieldA v2 1 fun v31 =>
pLoad1 h3 v31 fun v32 =>
pInt .neq v30 v32 fun v33 =>
pCond v33 (
joinC (α := AV × AV × Unit → AH → R) (fun s34 h35 =>
j7 (s34.1, s34.2.1, ()) h35 []) fun j36 =>
pFieldA v2 0 fun v37 =>
pLoad1 h3 v37 fun v38 =>
pFieldA v2 1 fun v39 =>
pLoad1 h3 v39 fun v40 =>
pFieldA v0 0 fun v41 =>
pLoad1 h3 v41 fun v42 =>
pFieldA v2 1 fun v43 =>
pLoad1 h3 v43 fun v44 =>
pCall c (.fn 305 [] []) [a0, v42, v44] h3 fun v45 h46 =>
pCall c (.fn 291 [] []) [a0, v38, v40, v45] h46 fun _ h48 =>
pChk v39 none v40 h3 h46 h3.nx <|
pChk v37 none v38 h3 h46 h3.nx <|
j36 (v2, a0, ()) h48) (
j7 (v2, a0, ()) h3 [])
theorem S293_eq (c : CV) (a0 a1 a2 : AV) (h : AH) : enterK Tryz.prog NN P293 c 293 [a0, a1, a2] h = S293 c a0 a1 a2 h := by kernel_rfl
def W293 (c : CV) (l : List AV) (h : AH) : R := match l with | [a0, a1, a2] => S293 c a0 a1 a2 h | _ => none
theorem W293_ok : WOk Tryz.prog 293 W293 := by
  intro c l h r e
  unfold W293 at e
  split at e
  · exact ⟨P293, by rw [S293_eq]; exact e⟩
  · cases e
/- (*quietus/tree.tree).paint -/
def P294 : Pl := .z
def S294 (c : CV) (a0 a1 a2 : AV) (h : AH) : R :=
pInt .eql a1 (.int .i64 (.ofNat 0)) fun v0 =>
pCond v0 (
pNil a0 fun v1 =>
pFieldA v1 0 fun v2 =>
pLoad1 h v2 fun v3 =>
pCall c (.fn 284 [] []) [v3, (.int .i64 (.ofNat 2))] h fun _ h5 =>
some ((.tup []), h5)) (
pNil a0 fun v6 =>
pFieldA v6 0 fun v7 =>
pLoad1 h v7 fun v8 =>
pInt .add a1 (.int .i64 (.ofNat 2)) fun v9 =>
pCall c (.fn 233 [] []) [v8, v9] h fun v10 h11 =>
pInt .and v10 (.int .u64 (.ofNat 1)) fun v12 =>
pInt .eql v12 (.int .u64 (.ofNat 1)) fun v13 =>
pEq .bool true v13 a2 fun v14 =>
pCond v14 (
pNil a0 fun v15 =>
pFieldA v15 0 fun v16 =>
pLoad1 h11 v16 fun v17 =>
pInt .add a1 (.int .i64 (.ofNat 2)) fun v18 =>
pInt .xor v10 (.int .u64 (.ofNat 1)) fun v19 =>
pCall c (.fn 230 [] []) [v17, v18, v19] h11 fun _ h21 =>
some ((.tup []), h21)) (
some ((.tup []), h11)))
theorem S294_eq (c : CV) (a0 a1 a2 : AV) (h : AH) : enterK Tryz.prog NN P294 c 294 [a0, a1, a2] h = S294 c a0 a1 a2 h := by kernel_rfl
def W294 (c : CV) (l : List AV) (h : AH) : R := match l with | [a0, a1, a2] => S294 c a0 a1 a2 h | _ => none
theorem W294_ok : WOk Tryz.prog 294 W294 := by
  intro c l h r e
  unfold W294 at e
  split at e
  · exact ⟨P294, by rw [S294_eq]; exact e⟩
  · cases e
/- (*quietus/tree.tree).heir -/
def P295 : Pl := (.n none .z (.n none .z (.n none .z (.n none (.n (some [1]) (.n (some [1, 0]) .z .z) .z) .z))))
def S295 (c : CV) (a0 a1 : AV) (h : AH) : R :=
pNil a0 fun v0 =>
pFieldA v0 2 fun v1 =>
pLoad1 h v1 fun v2 =>
pBuild [(.int .i64 (.ofNat 0)), (.int .i64 (.ofNat 0))] [(0, 1, a1), (1, 1, (.int .i64 (.ofNat 1)))] fun v3 =>
pBuildS h 333 [(.int .i64 (.ofNat 0)), (.int .i64 (.ofNat 0))] 1 [(0, 2, v3)] fun v4 h5 =>
pAppend h5 333 2 v2 v4 fun v6 h7 =>
pNil a0 fun v8 =>
pFieldA v8 2 fun v9 =>
pStore h7 v9 v6 1 fun h10 =>
pCall c (.fn 290 [] []) [a0, a1, (.int .i64 (.ofNat 1))] h10 fun v11 h12 =>
joinC (α := AV × Unit → AH → List Nat → R) (fun s13 h14 d15 =>
pLeave d15 h14 fun h17 =>
some (s13.1, h17)) fun j16 =>
loopC (σ := AV × AV × Unit) NN (fun i21 s18 h19 d20 =>
pNil s18.2.1 fun v22 =>
pFieldA v22 0 fun v23 =>
pLoad1 h19 v23 fun v24 =>
pCall c (.fn 282 [] []) [v24] h19 fun v25 h26 =>
pCond v25 (
pCall c (.fn 290 [] []) [s18.2.1, s18.1, (.int .i64 (.ofNat 0))] h26 fun v27 h28 =>
pInt .eql v27 (.int .i64 (.ofNat 0)) fun v29 =>
pCond v29 (
j16 (s18.1, ()) h28 d20) (
pNil s18.2.1 fun v30 =>
pFieldA v30 2 fun v31 =>
pLoad1 h28 v31 fun v32 =>
pBuild [(.int .i64 (.ofNat 0)), (.int .i64 (.ofNat 0))] [(0, 1, s18.1), (1, 1, (.int .i64 (.ofNat 0)))] fun v33 =>
pBuildS h28 333 [(.int .i64 (.ofNat 0)), (.int .i64 (.ofNat 0))] 1 [(0, 2, v33)] fun v34 h35 =>
pAppend h35 333 2 v32 v34 fun v36 h37 =>
pNil s18.2.1 fun v38 =>
pFieldA v38 2 fun v39 =>
pStore h37 v39 v36 1 fun h40 =>
i21 (v27, s18.2.1, ()) h40 d20)) (
j16 (s18.1, ()) h26 d20)) (v11, a0, ()) h12 []
theorem S295_eq (c : CV) (a0 a1 : AV) (h : AH) : enterK Tryz.prog NN P295 c 295 [a0, a1] h = S295 c a0 a1 h := by kernel_rfl
def W295 (c : CV) (l : List AV) (h : AH) : R := match l with | [a0, a1] => S295 c a0 a1 h | _ => none
theorem W295_ok : WOk Tryz.prog 295 W295 := by
  intro c l h r e
  unfold W295 at e
  split at e
  · exact ⟨P295, by rw [S295_eq]; exact e⟩
  · cases e
/- (*quietus/tree.tree).lowered -/
def P296 : Pl := (.n none (.n (some [0]) (.n none (.n none (.r [[16, 11, 0]]) .z) (.n (some [0]) (.n none .z (.n none .z (.n none .z (.n none .z (.n none (.n none (.r [[90, 85, 4, 3, 2, 0]]) .z) .z))))) .z)) .z) .z)
def S296 (c : CV) (a0 : AV) (h : AH) : R :=
loopC (σ := AV × Unit) NN (fun i3 s0 h1 d2 =>
pNil s0.1 fun v4 =>
pFieldA v4 2 fun v5 =>
pLoad1 h1 v5 fun v6 =>
pLenS v6 fun v7 =>
pInt .gtr v7 (.int .i64 (.ofNat 0)) fun v8 =>
joinC (α := AV × AV × AV × Unit → AH → R) (fun s9 h10 =>
pPick s9.2.1 s9.1 (.bool false) fun v12 =>
pCond v12 (
joinC (α := AV × Unit → AH → List Nat → R) (fun s13 h14 d15 =>
i3 (s13.1, ()) h14 d15) fun j16 =>
pNil s9.2.2.1 fun v17 =>
pFieldA v17 2 fun v18 =>
pLoad1 h10 v18 fun v19 =>
pLenS v19 fun v20 =>
pNil s9.2.2.1 fun v21 =>
pFieldA v21 2 fun v22 =>
pLoad1 h10 v22 fun v23 =>
pInt .sub v20 (.int .i64 (.ofNat 1)) fun v24 =>
pIdxS v23 v24 2 fun v25 =>
pLoadN h10 v25 2 fun v26 =>
pBox h10 333 (.agg [(.int .i64 (.ofNat 0)), (.int .i64 (.ofNat 0))]) fun v27 h28 =>
pStore h28 v27 v26 2 fun h29 =>
pFieldA v27 0 fun v30 =>
pLoad1 h29 v30 fun v31 =>
pFieldA v27 1 fun v32 =>
pLoad1 h29 v32 fun v33 =>
pInt .sub (.int .i64 (.ofNat 1)) v33 fun v34 =>
pCall c (.fn 290 [] []) [s9.2.2.1, v31, v34] h29 fun v35 h36 =>
pCall c (.fn 292 [] []) [s9.2.2.1, v35] h36 fun v37 h38 =>
pCond v37 (
pFieldA v27 0 fun v39 =>
pLoad1 h38 v39 fun v40 =>
pFieldA v27 1 fun v41 =>
pLoad1 h38 v41 fun v42 =>
pCall c (.fn 305 [] []) [s9.2.2.1, v40, v42] h38 fun _ h44 =>
pCall c (.fn 294 [] []) [s9.2.2.1, v35, (.bool false)] h44 fun _ h46 =>
pFieldA v27 0 fun v47 =>
pLoad1 h46 v47 fun v48 =>
pCall c (.fn 294 [] []) [s9.2.2.1, v48, (.bool true)] h46 fun _ h50 =>
pInt .sub v20 (.int .i64 (.ofNat 1)) fun v51 =>
pCall c (.fn 249 [] []) [s9.2.2.1, v51, v35] h50 fun _ h53 =>
pNil s9.2.2.1 fun v54 =>
pFieldA v54 2 fun v55 =>
pLoad1 h53 v55 fun v56 =>
pInt .sub v20 (.int .i64 (.ofNat 1)) fun v57 =>
pFieldA v27 1 fun v58 =>
pLoad1 h53 v58 fun v59 =>
pBuild [(.int .i64 (.ofNat 0)), (.int .i64 (.ofNat 0))] [(0, 1, v35), (1, 1, v59)] fun v60 =>
pIdxS v56 v57 2 fun v61 =>
pStore h53 v61 v60 2 fun h62 =>
pNil s9.2.2.1 fun v63 =>
pFieldA v63 2 fun v64 =>
pLoad1 h62 v64 fun v65 =>
pLoadN h62 v27 2 fun v66 =>
pBuildS h62 333 [(.int .i64 (.ofNat 0)), (.int .i64 (.ofNat 0))] 1 [(0, 2, v66)] fun v67 h68 =>
pAppend h68 333 2 v65 v67 fun v69 h70 =>
pNil s9.2.2.1 fun v71 =>
pFieldA v71 2 fun v72 =>
pStore h70 v72 v69 1 fun h73 =>
j16 (s9.2.2.1, ()) h73 d2) (
pCall c (.fn 290 [] []) [s9.2.2.1, v35, (.int .i64 (.ofNat 0))] h38 fun v74 h75 =>
pCall c (.fn 292 [] []) [s9.2.2.1, v74] h75 fun v76 h77 =>
joinC (α := AV × AV × AV × AV × AV × AV × Unit → AH → R) (fun s78 h79 =>
pPick s78.2.1 (.bool true) s78.1 fun v81 =>
pCond v81 (
pLoadN h79 s78.2.2.2.1 2 fun v82 =>
pCall c (.fn 306 [] []) [s78.2.2.2.2.2.1, v82, s78.2.2.1] h79 fun _ h84 =>
pLeave d2 h84 fun h85 =>
some ((.tup []), h85)) (
pCall c (.fn 294 [] []) [s78.2.2.2.2.2.1, s78.2.2.1, (.bool true)] h79 fun _ h87 =>
pFieldA s78.2.2.2.1 0 fun v88 =>
pLoad1 h87 v88 fun v89 =>
pCall c (.fn 292 [] []) [s78.2.2.2.2.2.1, v89] h87 fun v90 h91 =>
pCond v90 (
pFieldA s78.2.2.2.1 0 fun v92 =>
pLoad1 h91 v92 fun v93 =>
pCall c (.fn 294 [] []) [s78.2.2.2.2.2.1, v93, (.bool false)] h91 fun _ h95 =>
pLeave d2 h95 fun h96 =>
some ((.tup []), h96)) (
pNil s78.2.2.2.2.2.1 fun v97 =>
pFieldA v97 2 fun v98 =>
pLoad1 h91 v98 fun v99 =>
pInt .sub s78.2.2.2.2.1 (.int .i64 (.ofNat 1)) fun v100 =>
pSlice h91 333 2 v99 none (some v100) fun v101 =>
pNil s78.2.2.2.2.2.1 fun v102 =>
pFieldA v102 2 fun v103 =>
pStore h91 v103 v101 1 fun h104 =>
j16 (s78.2.2.2.2.2.1, ()) h104 d2))) fun j80 =>
pWant v76 false (
pCall c (.fn 290 [] []) [s9.2.2.1, v35, (.int .i64 (.ofNat 1))] h77 fun v105 h106 =>
pCall c (.fn 292 [] []) [s9.2.2.1, v105] h106 fun v107 h108 =>
j80 (v107, v76, v35, v27, v20, s9.2.2.1, ()) h108) (
j80 (.undef, v76, v35, v27, v20, s9.2.2.1, ()) h77))) (
pLeave d2 h10 fun h109 =>
some ((.tup []), h109))) fun j11 =>
pWant v8 true (
pNil s0.1 fun v110 =>
pFieldA v110 0 fun v111 =>
pLoad1 h1 v111 fun v112 =>
pCall c (.fn 282 [] []) [v112] h1 fun v113 h114 =>
j11 (v113, v8, s0.1, ()) h114) (
j11 (.undef, v8, s0.1, ()) h1)) (a0, ()) h []
theorem S296_eq (c : CV) (a0 : AV) (h : AH) : enterK Tryz.prog NN P296 c 296 [a0] h = S296 c a0 h := by kernel_rfl
def W296 (c : CV) (l : List AV) (h : AH) : R := match l with | [a0] => S296 c a0 h | _ => none
theorem W296_ok : WOk Tryz.prog 296 W296 := by
  intro c l h r e
  unfold W296 at e
  split at e
  · exact ⟨P296, by rw [S296_eq]; exact e⟩
  · cases e
/- quietus/arena.Size -/
def P297 : Pl := (.n none .z (.n none (.n none (.r [[7, 5, 0]]) .z) .z))
def S297 (_ : CV) (a0 : AV) (h : AH) : R :=
pInt .lss a0 (.int .i64 (.ofNat 1)) fun v0 =>
joinC (α := AV × AV × AV × Unit → AH → R) (fun s1 h2 =>
pPick s1.2.1 (.bool true) s1.1 fun v4 =>
pCond v4 (
some ((.int .i64 (.ofNat 0)), h2)) (
pShift .shl (.int .i64 (.ofNat 1)) s1.2.2.1 fun v5 =>
some (v5, h2))) fun j3 =>
pWant v0 false (
pInt .gtr a0 (.int .i64 (.ofNat 4)) fun v6 =>
j3 (v6, v0, a0, ()) h) (
j3 (.undef, v0, a0, ()) h)
theorem S297_eq (c : CV) (a0 : AV) (h : AH) : enterK Tryz.prog NN P297 c 297 [a0] h = S297 c a0 h := by kernel_rfl
def W297 (c : CV) (l : List AV) (h : AH) : R := match l with | [a0] => S297 c a0 h | _ => none
theorem W297_ok : WOk Tryz.prog 297 W297 := by
  intro c l h r e
  unfold W297 at e
  split at e
  · exact ⟨P297, by rw [S297_eq]; exact e⟩
  · cases e
/- (*quietus/levels.Levels).Free -/
def P298 : Pl := .z
def S298 (c : CV) (a0 a1 : AV) (h : AH) : R :=
pCall c (.fn 199 [] []) [a0] h fun v0 h1 =>
pNil v0 fun v2 =>
pFieldA v2 1 fun v3 =>
pLoad1 h1 v3 fun v4 =>
pBuildS h1 3 [(.int .i64 (.ofNat 0))] 1 [(0, 1, a1)] fun v5 h6 =>
pAppend h6 3 1 v4 v5 fun v7 h8 =>
pNil v0 fun v9 =>
pFieldA v9 1 fun v10 =>
pStore h8 v10 v7 1 fun h11 =>
some ((.tup []), h11)
theorem S298_eq (c : CV) (a0 a1 : AV) (h : AH) : enterK Tryz.prog NN P298 c 298 [a0, a1] h = S298 c a0 a1 h := by kernel_rfl
def W298 (c : CV) (l : List AV) (h : AH) : R := match l with | [a0, a1] => S298 c a0 a1 h | _ => none
theorem W298_ok : WOk Tryz.prog 298 W298 := by
  intro c l h r e
  unfold W298 at e
  split at e
  · exact ⟨P298, by rw [S298_eq]; exact e⟩
  · cases e
/- (*quietus/levels.Levels).Open -/
def P299 : Pl := (.n none .z (.n none .z (.n none (.r [[]]) .z)))
def S299 (c : CV) (a0 : AV) (h : AH) : R :=
pNil a0 fun v0 =>
pFieldA v0 1 fun v1 =>
pLoad1 h v1 fun v2 =>
pLenS v2 fun v3 =>
pInt .geq v3 (.int .i64 (.ofNat 6)) fun v4 =>
pCond v4 (
some ((.int .i64 (.ofNat 9)), h)) (
joinC (α := Unit → AH → R) (fun _ h6 =>
some ((.int .i64 (.ofNat 0)), h6)) fun j7 =>
pNil a0 fun v8 =>
pFieldA v8 1 fun v9 =>
pLoad1 h v9 fun v10 =>
pCall c (.fn 168 [] []) [] h fun v11 h12 =>
pBuildS h12 205 [.nilp] 1 [(0, 1, v11)] fun v13 h14 =>
pAppend h14 205 1 v10 v13 fun v15 h16 =>
pNil a0 fun v17 =>
pFieldA v17 1 fun v18 =>
pStore h16 v18 v15 1 fun h19 =>
pChk v9 none v10 h h12 h.nx <|
j7 (()) h19)
theorem S299_eq (c : CV) (a0 : AV) (h : AH) : enterK Tryz.prog NN P299 c 299 [a0] h = S299 c a0 h := by kernel_rfl
def W299 (c : CV) (l : List AV) (h : AH) : R := match l with | [a0] => S299 c a0 h | _ => none
theorem W299_ok : WOk Tryz.prog 299 W299 := by
  intro c l h r e
  unfold W299 at e
  split at e
  · exact ⟨P299, by rw [S299_eq]; exact e⟩
  · cases e
/- (*quietus/writes.Writes).Len -/
def P300 : Pl := .z
def S300 (_ : CV) (a0 : AV) (h : AH) : R :=
pNil a0 fun v0 =>
pFieldA v0 1 fun v1 =>
pLoad1 h v1 fun v2 =>
pLenS v2 fun v3 =>
some (v3, h)
theorem S300_eq (c : CV) (a0 : AV) (h : AH) : enterK Tryz.prog NN P300 c 300 [a0] h = S300 c a0 h := by kernel_rfl
def W300 (c : CV) (l : List AV) (h : AH) : R := match l with | [a0] => S300 c a0 h | _ => none
theorem W300_ok : WOk Tryz.prog 300 W300 := by
  intro c l h r e
  unfold W300 at e
  split at e
  · exact ⟨P300, by rw [S300_eq]; exact e⟩
  · cases e
/- slices.order2Ordered[int] -/
def P301 : Pl := .z
def S301 (c : CV) (a0 a1 a2 a3 : AV) (h : AH) : R :=
pIdxS a0 a2 1 fun v0 =>
pLoad1 h v0 fun v1 =>
pIdxS a0 a1 1 fun v2 =>
pLoad1 h v2 fun v3 =>
pCall c (.fn 208 [] []) [v1, v3] h fun v4 h5 =>
pCond v4 (
pNil a3 fun v6 =>
pLoad1 h5 v6 fun v7 =>
pInt .add v7 (.int .i64 (.ofNat 1)) fun v8 =>
pNil a3 fun v9 =>
pStore h5 v9 v8 1 fun h10 =>
some ((.tup [a2, a1]), h10)) (
some ((.tup [a1, a2]), h5))
theorem S301_eq (c : CV) (a0 a1 a2 a3 : AV) (h : AH) : enterK Tryz.prog NN P301 c 301 [a0, a1, a2, a3] h = S301 c a0 a1 a2 a3 h := by kernel_rfl
def W301 (c : CV) (l : List AV) (h : AH) : R := match l with | [a0, a1, a2, a3] => S301 c a0 a1 a2 a3 h | _ => none
theorem W301_ok : WOk Tryz.prog 301 W301 := by
  intro c l h r e
  unfold W301 at e
  split at e
  · exact ⟨P301, by rw [S301_eq]; exact e⟩
  · cases e
/- math/bits.TrailingZeros32 -/
def P302 : Pl := .z
def S302 (_ : CV) (a0 : AV) (h : AH) : R :=
pInt .eql a0 (.int .u32 (.ofNat 0)) fun v0 =>
pCond v0 (
some ((.int .i64 (.ofNat 32)), h)) (
pUn .neg a0 fun v1 =>
pInt .and a0 v1 fun v2 =>
pInt .mul v2 (.int .u32 (.ofNat 125613361)) fun v3 =>
pShift .shr v3 (.int .u64 (.ofNat 27)) fun _ =>
none /- op -/)
theorem S302_eq (c : CV) (a0 : AV) (h : AH) : enterK Tryz.prog NN P302 c 302 [a0] h = S302 c a0 h := by kernel_rfl
def W302 (c : CV) (l : List AV) (h : AH) : R := match l with | [a0] => S302 c a0 h | _ => none
theorem W302_ok : WOk Tryz.prog 302 W302 := by
  intro c l h r e
  unfold W302 at e
  split at e
  · exact ⟨P302, by rw [S302_eq]; exact e⟩
  · cases e
/- math/bits.TrailingZeros64 -/
def P303 : Pl := .z
def S303 (_ : CV) (a0 : AV) (h : AH) : R :=
pInt .eql a0 (.int .u64 (.ofNat 0)) fun v0 =>
pCond v0 (
some ((.int .i64 (.ofNat 64)), h)) (
pUn .neg a0 fun v1 =>
pInt .and a0 v1 fun v2 =>
pInt .mul v2 (.int .u64 (.ofNat 285870213051353865)) fun v3 =>
pShift .shr v3 (.int .u64 (.ofNat 58)) fun _ =>
none /- op -/)
theorem S303_eq (c : CV) (a0 : AV) (h : AH) : enterK Tryz.prog NN P303 c 303 [a0] h = S303 c a0 h := by kernel_rfl
def W303 (c : CV) (l : List AV) (h : AH) : R := match l with | [a0] => S303 c a0 h | _ => none
theorem W303_ok : WOk Tryz.prog 303 W303 := by
  intro c l h r e
  unfold W303 at e
  split at e
  · exact ⟨P303, by rw [S303_eq]; exact e⟩
  · cases e
/- (*quietus/draft.Draft).Name -/
def P304 : Pl := .z
def S304 (c : CV) (a0 a1 : AV) (h : AH) : R :=
pInt .geq a1 (.int .u64 (.ofNat 2147483648)) fun v0 =>
pCond v0 (
pCall c (.fn 284 [] []) [a0, (.int .i64 (.ofNat 2))] h fun _ h2 =>
some ((.int .i64 (.ofNat 0)), h2)) (
pConvI .i64 a1 fun v3 =>
some (v3, h))
theorem S304_eq (c : CV) (a0 a1 : AV) (h : AH) : enterK Tryz.prog NN P304 c 304 [a0, a1] h = S304 c a0 a1 h := by kernel_rfl
def W304 (c : CV) (l : List AV) (h : AH) : R := match l with | [a0, a1] => S304 c a0 a1 h | _ => none
theorem W304_ok : WOk Tryz.prog 304 W304 := by
  intro c l h r e
  unfold W304 at e
  split at e
  · exact ⟨P304, by rw [S304_eq]; exact e⟩
  · cases e
/- (*quietus/tree.tree).turn -/
def P305 : Pl := .z
def S305 (c : CV) (a0 a1 a2 : AV) (h : AH) : R :=
pInt .sub (.int .i64 (.ofNat 1)) a2 fun v0 =>
pCall c (.fn 290 [] []) [a0, a1, v0] h fun v1 h2 =>
pInt .sub (.int .i64 (.ofNat 1)) a2 fun v3 =>
pCall c (.fn 290 [] []) [a0, v1, a2] h2 fun v4 h5 =>
pCall c (.fn 291 [] []) [a0, a1, v3, v4] h5 fun _ h7 =>
pCall c (.fn 291 [] []) [a0, v1, a2, a1] h7 fun _ h9 =>
some (v1, h9)
theorem S305_eq (c : CV) (a0 a1 a2 : AV) (h : AH) : enterK Tryz.prog NN P305 c 305 [a0, a1, a2] h = S305 c a0 a1 a2 h := by kernel_rfl
def W305 (c : CV) (l : List AV) (h : AH) : R := match l with | [a0, a1, a2] => S305 c a0 a1 a2 h | _ => none
theorem W305_ok : WOk Tryz.prog 305 W305 := by
  intro c l h r e
  unfold W305 at e
  split at e
  · exact ⟨P305, by rw [S305_eq]; exact e⟩
  · cases e
/- (*quietus/tree.tree).lent -/
def P306 : Pl := (.n none .z (.n (some [4, 2, 0]) .z .z))
def S306 (c : CV) (a0 a1 a2 : AV) (h : AH) : R :=
pBox h 333 a1 fun v0 h1 =>
joinC (α := AV × AV × AV × Unit → AH → List Nat → R) (fun s2 h3 d4 =>
pFieldA s2.1 0 fun v6 =>
pLoad1 h3 v6 fun v7 =>
pFieldA s2.1 1 fun v8 =>
pLoad1 h3 v8 fun v9 =>
pCall c (.fn 305 [] []) [s2.2.2.1, v7, v9] h3 fun _ h11 =>
pFieldA s2.1 0 fun v12 =>
pLoad1 h11 v12 fun v13 =>
pCall c (.fn 292 [] []) [s2.2.2.1, v13] h11 fun v14 h15 =>
pCall c (.fn 294 [] []) [s2.2.2.1, s2.2.1, v14] h15 fun _ h17 =>
pFieldA s2.1 0 fun v18 =>
pLoad1 h17 v18 fun v19 =>
pCall c (.fn 294 [] []) [s2.2.2.1, v19, (.bool false)] h17 fun _ h21 =>
pFieldA s2.1 1 fun v22 =>
pLoad1 h21 v22 fun v23 =>
pInt .sub (.int .i64 (.ofNat 1)) v23 fun v24 =>
pCall c (.fn 290 [] []) [s2.2.2.1, s2.2.1, v24] h21 fun v25 h26 =>
pCall c (.fn 294 [] []) [s2.2.2.1, v25, (.bool false)] h26 fun _ h28 =>
pNil s2.2.2.1 fun v29 =>
pFieldA v29 2 fun v30 =>
pLoad1 h28 v30 fun v31 =>
pLenS v31 fun v32 =>
pInt .sub v32 (.int .i64 (.ofNat 1)) fun v33 =>
pCall c (.fn 249 [] []) [s2.2.2.1, v33, s2.2.1] h28 fun _ h35 =>
pLeave d4 h35 fun h36 =>
some ((.tup []), h36)) fun j5 =>
pFieldA v0 1 fun v37 =>
pLoad1 h1 v37 fun v38 =>
pInt .sub (.int .i64 (.ofNat 1)) v38 fun v39 =>
pCall c (.fn 290 [] []) [a0, a2, v39] h1 fun v40 h41 =>
pCall c (.fn 292 [] []) [a0, v40] h41 fun v42 h43 =>
pUn .not v42 fun v44 =>
pCond v44 (
pFieldA v0 1 fun v45 =>
pLoad1 h43 v45 fun v46 =>
pInt .sub (.int .i64 (.ofNat 1)) v46 fun v47 =>
pCall c (.fn 305 [] []) [a0, a2, v47] h43 fun v48 h49 =>
pFieldA v0 0 fun v50 =>
pLoad1 h49 v50 fun v51 =>
pFieldA v0 1 fun v52 =>
pLoad1 h49 v52 fun v53 =>
pInt .sub (.int .i64 (.ofNat 1)) v53 fun v54 =>
pCall c (.fn 291 [] []) [a0, v51, v54, v48] h49 fun _ h56 =>
pCall c (.fn 294 [] []) [a0, v48, (.bool false)] h56 fun _ h58 =>
pCall c (.fn 294 [] []) [a0, a2, (.bool true)] h58 fun _ h60 =>
j5 (v0, v48, a0, ()) h60 []) (
j5 (v0, a2, a0, ()) h43 [])
theorem S306_eq (c : CV) (a0 a1 a2 : AV) (h : AH) : enterK Tryz.prog NN P306 c 306 [a0, a1, a2] h = S306 c a0 a1 a2 h := by kernel_rfl
def W306 (c : CV) (l : List AV) (h : AH) : R := match l with | [a0, a1, a2] => S306 c a0 a1 a2 h | _ => none
theorem W306_ok : WOk Tryz.prog 306 W306 := by
  intro c l h r e
  unfold W306 at e
  split at e
  · exact ⟨P306, by rw [S306_eq]; exact e⟩
  · cases e
/- (*quietus/levels.Levels).Cells: a round -/
def Q0 : Pl := (.n none .z .z)
def B0 (c : CV) (l : Nat) (v0 _ a1 : AV) (h : AH) : R :=
pBegin h l fun h100 =>
pCall c (.fn 125 [] []) [(.int .i64 (.ofNat 96))] h100 fun v101 h102 =>
pNil a1 fun v103 =>
pFieldA v103 0 fun v104 =>
pLoad1 h102 v104 fun v105 =>
pCall c (.fn 127 [] []) [v105] h102 fun v106 h107 =>
pCall c (.fn 126 [] []) [v101, v106] h107 fun _ h109 =>
pLoad1 h109 v0 fun v110 =>
pCall c (.fn 126 [] []) [v101, v110] h109 fun _ h112 =>
pCall c (.fn 127 [] []) [v101] h112 fun v113 h114 =>
pStore h114 v0 v113 1 fun h115 =>
pEndRound h115 l none
theorem B0_eq (c : CV) (l : Nat) (v0 a0 a1 : AV) (h : AH) : roundK Tryz.prog NN Q0 c 99 [1, 1, 0, 1, 0] [3] l [v0] [a0, a1] h = B0 c l v0 a0 a1 h := by kernel_rfl
def V0 (c : CV) (l : Nat) (x y : List AV) (h : AH) : R := match x, y with | [v0], [a0, a1] => B0 c l v0 a0 a1 h | _, _ => none
theorem V0_ok : VOk Tryz.prog 99 [1, 1, 0, 1, 0] [3] V0 := by
  intro c l x y h r e
  unfold V0 at e
  split at e
  · exact ⟨Q0, by rw [B0_eq]; exact e⟩
  · cases e
/- (*quietus/levels.Levels).Get: a round -/
def Q1 : Pl := (.n none .z .z)
def B1 (c : CV) (l : Nat) (v0 v1 v2 _ a1 : AV) (h : AH) : R :=
pBegin h l fun h100 =>
pNil a1 fun v101 =>
pFieldA v101 0 fun v102 =>
pLoad1 h100 v102 fun v103 =>
pLoad1 h100 v2 fun v104 =>
pCall c (.fn 198 [] []) [v103, v104] h100 fun v105 h106 =>
pExtract v105 0 fun v107 =>
pExtract v105 1 fun v108 =>
pCond v108 (
pStore h106 v1 v107 1 fun h109 =>
pStore h109 v0 (.bool true) 1 fun h110 =>
pEndRound h110 l (some .ret)) (
pEndRound h106 l none)
theorem B1_eq (c : CV) (l : Nat) (v0 v1 v2 a0 a1 : AV) (h : AH) : roundK Tryz.prog NN Q1 c 158 [1, 0, 1, 0] [5, 4, 3] l [v0, v1, v2] [a0, a1] h = B1 c l v0 v1 v2 a0 a1 h := by kernel_rfl
def V1 (c : CV) (l : Nat) (x y : List AV) (h : AH) : R := match x, y with | [v0, v1, v2], [a0, a1] => B1 c l v0 v1 v2 a0 a1 h | _, _ => none
theorem V1_ok : VOk Tryz.prog 158 [1, 0, 1, 0] [5, 4, 3] V1 := by
  intro c l x y h r e
  unfold V1 at e
  split at e
  · exact ⟨Q1, by rw [B1_eq]; exact e⟩
  · cases e
end
end Go.Proofs.YtlkmghghgmagaaaGreatDoor
