/- Printed by a program of mine: the bodies of the program's functions aa terms of the primitives of the abstract executor, each shown equal by the kernel. -/
import Derived.Test.YthkhbmdpmdkmoaaGreatDoorProg
import Derived.Test.YthkhbmdpmdkmoaaGreatDoorAe1
import Derived.KernelRfl
namespace Go.Proofs.YthkhbmdpmdkmoaaGreatDoor
open Go Go.Ae
set_option maxRecDepth 100000
noncomputable section
/- slices.order2Ordered[int] -/
def P331 : Pl := .z
def S331 (c : CV) (a0 a1 a2 a3 : AV) (h : AH) : R :=
pIdxS a0 a2 1 fun v0 =>
pLoad1 h v0 fun v1 =>
pIdxS a0 a1 1 fun v2 =>
pLoad1 h v2 fun v3 =>
pCall c (.fn 241 [] []) [v1, v3] h fun v4 h5 =>
pCond v4 (
pNil a3 fun v6 =>
pLoad1 h5 v6 fun v7 =>
pInt .add v7 (.int .i64 (.ofNat 1)) fun v8 =>
pNil a3 fun v9 =>
pStore h5 v9 v8 1 fun h10 =>
some ((.tup [a2, a1]), h10)) (
some ((.tup [a1, a2]), h5))
theorem S331_eq (c : CV) (a0 a1 a2 a3 : AV) (h : AH) : enterK Tryz.prog NN P331 c 331 [a0, a1, a2, a3] h = S331 c a0 a1 a2 a3 h := by kernel_rfl
def W331 (c : CV) (l : List AV) (h : AH) : R := match l with | [a0, a1, a2, a3] => S331 c a0 a1 a2 a3 h | _ => none
theorem W331_ok : WOk Tryz.prog 331 W331 := by
  intro c l h r e
  unfold W331 at e
  split at e
  · exact ⟨P331, by rw [S331_eq]; exact e⟩
  · cases e
/- math/bits.TrailingZeros32 -/
def P332 : Pl := .z
def S332 (_ : CV) (a0 : AV) (h : AH) : R :=
pInt .eql a0 (.int .u32 (.ofNat 0)) fun v0 =>
pCond v0 (
some ((.int .i64 (.ofNat 32)), h)) (
pUn .neg a0 fun v1 =>
pInt .and a0 v1 fun v2 =>
pInt .mul v2 (.int .u32 (.ofNat 125613361)) fun v3 =>
pShift .shr v3 (.int .u64 (.ofNat 27)) fun _ =>
none /- op -/)
theorem S332_eq (c : CV) (a0 : AV) (h : AH) : enterK Tryz.prog NN P332 c 332 [a0] h = S332 c a0 h := by kernel_rfl
def W332 (c : CV) (l : List AV) (h : AH) : R := match l with | [a0] => S332 c a0 h | _ => none
theorem W332_ok : WOk Tryz.prog 332 W332 := by
  intro c l h r e
  unfold W332 at e
  split at e
  · exact ⟨P332, by rw [S332_eq]; exact e⟩
  · cases e
/- math/bits.TrailingZeros64 -/
def P333 : Pl := .z
def S333 (_ : CV) (a0 : AV) (h : AH) : R :=
pInt .eql a0 (.int .u64 (.ofNat 0)) fun v0 =>
pCond v0 (
some ((.int .i64 (.ofNat 64)), h)) (
pUn .neg a0 fun v1 =>
pInt .and a0 v1 fun v2 =>
pInt .mul v2 (.int .u64 (.ofNat 285870213051353865)) fun v3 =>
pShift .shr v3 (.int .u64 (.ofNat 58)) fun _ =>
none /- op -/)
theorem S333_eq (c : CV) (a0 : AV) (h : AH) : enterK Tryz.prog NN P333 c 333 [a0] h = S333 c a0 h := by kernel_rfl
def W333 (c : CV) (l : List AV) (h : AH) : R := match l with | [a0] => S333 c a0 h | _ => none
theorem W333_ok : WOk Tryz.prog 333 W333 := by
  intro c l h r e
  unfold W333 at e
  split at e
  · exact ⟨P333, by rw [S333_eq]; exact e⟩
  · cases e
/- (*quietus/draft.Draft).Name -/
def P334 : Pl := .z
def S334 (c : CV) (a0 a1 : AV) (h : AH) : R :=
pInt .geq a1 (.int .u64 (.ofNat 2147483648)) fun v0 =>
pCond v0 (
pCall c (.fn 314 [] []) [a0, (.int .i64 (.ofNat 2))] h fun _ h2 =>
some ((.int .i64 (.ofNat 0)), h2)) (
pConvI .i64 a1 fun v3 =>
some (v3, h))
theorem S334_eq (c : CV) (a0 a1 : AV) (h : AH) : enterK Tryz.prog NN P334 c 334 [a0, a1] h = S334 c a0 a1 h := by kernel_rfl
def W334 (c : CV) (l : List AV) (h : AH) : R := match l with | [a0, a1] => S334 c a0 a1 h | _ => none
theorem W334_ok : WOk Tryz.prog 334 W334 := by
  intro c l h r e
  unfold W334 at e
  split at e
  · exact ⟨P334, by rw [S334_eq]; exact e⟩
  · cases e
/- (*quietus/tree.tree).turn -/
def P335 : Pl := .z
def S335 (c : CV) (a0 a1 a2 : AV) (h : AH) : R :=
pInt .sub (.int .i64 (.ofNat 1)) a2 fun v0 =>
pCall c (.fn 320 [] []) [a0, a1, v0] h fun v1 h2 =>
pInt .sub (.int .i64 (.ofNat 1)) a2 fun v3 =>
pCall c (.fn 320 [] []) [a0, v1, a2] h2 fun v4 h5 =>
pCall c (.fn 321 [] []) [a0, a1, v3, v4] h5 fun _ h7 =>
pCall c (.fn 321 [] []) [a0, v1, a2, a1] h7 fun _ h9 =>
some (v1, h9)
theorem S335_eq (c : CV) (a0 a1 a2 : AV) (h : AH) : enterK Tryz.prog NN P335 c 335 [a0, a1, a2] h = S335 c a0 a1 a2 h := by kernel_rfl
def W335 (c : CV) (l : List AV) (h : AH) : R := match l with | [a0, a1, a2] => S335 c a0 a1 a2 h | _ => none
theorem W335_ok : WOk Tryz.prog 335 W335 := by
  intro c l h r e
  unfold W335 at e
  split at e
  · exact ⟨P335, by rw [S335_eq]; exact e⟩
  · cases e
/- (*quietus/tree.tree).lent -/
def P336 : Pl := (.n none .z (.n (some [4, 2, 0]) .z .z))
def S336 (c : CV) (a0 a1 a2 : AV) (h : AH) : R :=
pBox h 349 a1 fun v0 h1 =>
joinC (α := AV × AV × AV × Unit → AH → List Nat → R) (fun s2 h3 d4 =>
pFieldA s2.1 0 fun v6 =>
pLoad1 h3 v6 fun v7 =>
pFieldA s2.1 1 fun v8 =>
pLoad1 h3 v8 fun v9 =>
pCall c (.fn 335 [] []) [s2.2.2.1, v7, v9] h3 fun _ h11 =>
pFieldA s2.1 0 fun v12 =>
pLoad1 h11 v12 fun v13 =>
pCall c (.fn 322 [] []) [s2.2.2.1, v13] h11 fun v14 h15 =>
pCall c (.fn 324 [] []) [s2.2.2.1, s2.2.1, v14] h15 fun _ h17 =>
pFieldA s2.1 0 fun v18 =>
pLoad1 h17 v18 fun v19 =>
pCall c (.fn 324 [] []) [s2.2.2.1, v19, (.bool false)] h17 fun _ h21 =>
pFieldA s2.1 1 fun v22 =>
pLoad1 h21 v22 fun v23 =>
pInt .sub (.int .i64 (.ofNat 1)) v23 fun v24 =>
pCall c (.fn 320 [] []) [s2.2.2.1, s2.2.1, v24] h21 fun v25 h26 =>
pCall c (.fn 324 [] []) [s2.2.2.1, v25, (.bool false)] h26 fun _ h28 =>
pNil s2.2.2.1 fun v29 =>
pFieldA v29 2 fun v30 =>
pLoad1 h28 v30 fun v31 =>
pLenS v31 fun v32 =>
pInt .sub v32 (.int .i64 (.ofNat 1)) fun v33 =>
pCall c (.fn 281 [] []) [s2.2.2.1, v33, s2.2.1] h28 fun _ h35 =>
pLeave d4 h35 fun h36 =>
some ((.tup []), h36)) fun j5 =>
pFieldA v0 1 fun v37 =>
pLoad1 h1 v37 fun v38 =>
pInt .sub (.int .i64 (.ofNat 1)) v38 fun v39 =>
pCall c (.fn 320 [] []) [a0, a2, v39] h1 fun v40 h41 =>
pCall c (.fn 322 [] []) [a0, v40] h41 fun v42 h43 =>
pUn .not v42 fun v44 =>
pCond v44 (
pFieldA v0 1 fun v45 =>
pLoad1 h43 v45 fun v46 =>
pInt .sub (.int .i64 (.ofNat 1)) v46 fun v47 =>
pCall c (.fn 335 [] []) [a0, a2, v47] h43 fun v48 h49 =>
pFieldA v0 0 fun v50 =>
pLoad1 h49 v50 fun v51 =>
pFieldA v0 1 fun v52 =>
pLoad1 h49 v52 fun v53 =>
pInt .sub (.int .i64 (.ofNat 1)) v53 fun v54 =>
pCall c (.fn 321 [] []) [a0, v51, v54, v48] h49 fun _ h56 =>
pCall c (.fn 324 [] []) [a0, v48, (.bool false)] h56 fun _ h58 =>
pCall c (.fn 324 [] []) [a0, a2, (.bool true)] h58 fun _ h60 =>
j5 (v0, v48, a0, ()) h60 []) (
j5 (v0, a2, a0, ()) h43 [])
theorem S336_eq (c : CV) (a0 a1 a2 : AV) (h : AH) : enterK Tryz.prog NN P336 c 336 [a0, a1, a2] h = S336 c a0 a1 a2 h := by kernel_rfl
def W336 (c : CV) (l : List AV) (h : AH) : R := match l with | [a0, a1, a2] => S336 c a0 a1 a2 h | _ => none
theorem W336_ok : WOk Tryz.prog 336 W336 := by
  intro c l h r e
  unfold W336 at e
  split at e
  · exact ⟨P336, by rw [S336_eq]; exact e⟩
  · cases e
/- (*quietus/fetch.Fetch).By -/
def P359 : Pl := .z
def S359 (c : CV) (a0 : AV) (h : AH) : R :=
pNil a0 fun v0 =>
pFieldA v0 0 fun v1 =>
pCall c (.fn 362 [] []) [v1] h fun v2 h3 =>
some (v2, h3)
theorem S359_eq (c : CV) (a0 : AV) (h : AH) : enterK Tryz.prog NN P359 c 359 [a0] h = S359 c a0 h := by kernel_rfl
def W359 (c : CV) (l : List AV) (h : AH) : R := match l with | [a0] => S359 c a0 h | _ => none
theorem W359_ok : WOk Tryz.prog 359 W359 := by
  intro c l h r e
  unfold W359 at e
  split at e
  · exact ⟨P359, by rw [S359_eq]; exact e⟩
  · cases e
/- (*quietus/fetch.Fetch).Next -/
def P360 : Pl := .z
def S360 (c : CV) (a0 : AV) (h : AH) : R :=
pBox h 62 (.agg [(.int .i64 (.ofNat 0)), (.int .i64 (.ofNat 0)), (.int .u64 (.ofNat 0)), (.int .u64 (.ofNat 0)), (.int .u64 (.ofNat 0)), (.bool false), (.int .i64 (.ofNat 0)), (.int .u64 (.ofNat 0)), (.bool false), (.int .i64 (.ofNat 0))]) fun v0 h1 =>
pNil a0 fun v2 =>
pFieldA v2 0 fun v3 =>
pCall c (.fn 122 [] []) [v3] h1 fun v4 h5 =>
pInt .neq v4 (.int .i64 (.ofNat 0)) fun v6 =>
pCond v6 (
pBuild [(.int .i64 (.ofNat 0)), (.int .i64 (.ofNat 0)), (.int .u64 (.ofNat 0)), (.int .u64 (.ofNat 0)), (.int .u64 (.ofNat 0)), (.bool false), (.int .i64 (.ofNat 0)), (.int .u64 (.ofNat 0)), (.bool false), (.int .i64 (.ofNat 0))] [] fun v7 =>
pStore h5 v0 v7 10 fun h8 =>
pLoadN h8 v0 10 fun v9 =>
some ((.tup [v9, (.bool false)]), h8)) (
pNil a0 fun v10 =>
pFieldA v10 8 fun v11 =>
pLoad1 h5 v11 fun v12 =>
pInt .eql v12 (.int .i64 (.ofNat 1)) fun v13 =>
pCond v13 (
pNil a0 fun v14 =>
pFieldA v14 5 fun v15 =>
pLoad1 h5 v15 fun v16 =>
pBuild [(.int .i64 (.ofNat 0)), (.int .i64 (.ofNat 0)), (.int .u64 (.ofNat 0)), (.int .u64 (.ofNat 0)), (.int .u64 (.ofNat 0)), (.bool false), (.int .i64 (.ofNat 0)), (.int .u64 (.ofNat 0)), (.bool false), (.int .i64 (.ofNat 0))] [(0, 1, (.int .i64 (.ofNat 1))), (1, 1, v16)] fun v17 =>
pStore h5 v0 v17 10 fun h18 =>
pLoadN h18 v0 10 fun v19 =>
some ((.tup [v19, (.bool true)]), h18)) (
pNil a0 fun v20 =>
pFieldA v20 6 fun v21 =>
pLoad1 h5 v21 fun v22 =>
pBuild [(.int .i64 (.ofNat 0)), (.int .i64 (.ofNat 0)), (.int .u64 (.ofNat 0)), (.int .u64 (.ofNat 0)), (.int .u64 (.ofNat 0)), (.bool false), (.int .i64 (.ofNat 0)), (.int .u64 (.ofNat 0)), (.bool false), (.int .i64 (.ofNat 0))] [(0, 1, (.int .i64 (.ofNat 3))), (1, 1, v22)] fun v23 =>
pStore h5 v0 v23 10 fun h24 =>
pLoadN h24 v0 10 fun v25 =>
some ((.tup [v25, (.bool true)]), h24)))
theorem S360_eq (c : CV) (a0 : AV) (h : AH) : enterK Tryz.prog NN P360 c 360 [a0] h = S360 c a0 h := by kernel_rfl
def W360 (c : CV) (l : List AV) (h : AH) : R := match l with | [a0] => S360 c a0 h | _ => none
theorem W360_ok : WOk Tryz.prog 360 W360 := by
  intro c l h r e
  unfold W360 at e
  split at e
  · exact ⟨P360, by rw [S360_eq]; exact e⟩
  · cases e
/- (*quietus/fetch.Fetch).Tell -/
def P361 : Pl := (.n none .z (.n (some []) (.n none .z (.n none .z (.n none .z (.n none .z (.n none (.r [[41, 34, 3, 0]]) .z))))) .z))
def S361 (c : CV) (a0 a1 : AV) (h : AH) : R :=
pBox h 67 a1 fun v0 h1 =>
joinC (α := Unit → AH → List Nat → R) (fun _ h3 d4 =>
pLeave d4 h3 fun h6 =>
some ((.tup []), h6)) fun j5 =>
pNil a0 fun v7 =>
pFieldA v7 0 fun v8 =>
pLoadN h1 v0 6 fun v9 =>
pCall c (.fn 363 [] []) [v8, v9] h1 fun v10 h11 =>
pCond v10 (
j5 (()) h11 []) (
pNil a0 fun v12 =>
pFieldA v12 8 fun v13 =>
pLoad1 h11 v13 fun v14 =>
pInt .eql v14 (.int .i64 (.ofNat 1)) fun v15 =>
pCond v15 (
pFieldA v0 0 fun v16 =>
pLoad1 h11 v16 fun v17 =>
pNil a0 fun v18 =>
pFieldA v18 12 fun v19 =>
pStore h11 v19 v17 1 fun h20 =>
pNil a0 fun v21 =>
pFieldA v21 8 fun v22 =>
pStore h20 v22 (.int .i64 (.ofNat 2)) 1 fun h23 =>
j5 (()) h23 []) (
pNil a0 fun v24 =>
pFieldA v24 8 fun v25 =>
pLoad1 h11 v25 fun v26 =>
pInt .eql v26 (.int .i64 (.ofNat 2)) fun v27 =>
joinC (α := AV × AV × AV × AV × Unit → AH → R) (fun s28 h29 =>
pPick s28.2.1 s28.1 (.bool false) fun v31 =>
pCond v31 (
pNil s28.2.2.2.1 fun v32 =>
pFieldA v32 0 fun v33 =>
pCall c (.fn 364 [] []) [v33, (.int .i64 (.ofNat 2)), (.int .i64 (.ofNat 0)), (.int .i64 (.negSucc 0))] h29 fun _ h35 =>
j5 (()) h35 []) (
pFieldA s28.2.2.1 1 fun v36 =>
pLoadN h29 v36 3 fun v37 =>
pCall c (.fn 365 [] []) [s28.2.2.2.1, v37] h29 fun _ h39 =>
j5 (()) h39 [])) fun j30 =>
pWant v27 true (
pFieldA v0 1 fun v40 =>
pLoadN h11 v40 3 fun v41 =>
pNil a0 fun v42 =>
pFieldA v42 9 fun v43 =>
pLoadN h11 v43 3 fun v44 =>
pEqS [.bas .int 0, .bas .bool 1, .bas .int 2] false v41 v44 fun v45 =>
j30 (v45, v27, v0, a0, ()) h11) (
j30 (.undef, v27, v0, a0, ()) h11)))
theorem S361_eq (c : CV) (a0 a1 : AV) (h : AH) : enterK Tryz.prog NN P361 c 361 [a0, a1] h = S361 c a0 a1 h := by kernel_rfl
def W361 (c : CV) (l : List AV) (h : AH) : R := match l with | [a0, a1] => S361 c a0 a1 h | _ => none
theorem W361_ok : WOk Tryz.prog 361 W361 := by
  intro c l h r e
  unfold W361 at e
  split at e
  · exact ⟨P361, by rw [S361_eq]; exact e⟩
  · cases e
/- (*quietus/patience.Patience).By -/
def P362 : Pl := .z
def S362 (_ : CV) (a0 : AV) (h : AH) : R :=
pNil a0 fun v0 =>
pFieldA v0 3 fun v1 =>
pLoad1 h v1 fun v2 =>
some (v2, h)
theorem S362_eq (c : CV) (a0 : AV) (h : AH) : enterK Tryz.prog NN P362 c 362 [a0] h = S362 c a0 h := by kernel_rfl
def W362 (c : CV) (l : List AV) (h : AH) : R := match l with | [a0] => S362 c a0 h | _ => none
theorem W362_ok : WOk Tryz.prog 362 W362 := by
  intro c l h r e
  unfold W362 at e
  split at e
  · exact ⟨P362, by rw [S362_eq]; exact e⟩
  · cases e
/- (*quietus/patience.Patience).Stopped -/
def P363 : Pl := (.n none .z (.n (some [0]) (.n none (.r [[13, 10, 3, 0]]) .z) .z))
def S363 (c : CV) (a0 a1 : AV) (h : AH) : R :=
pBox h 67 a1 fun v0 h1 =>
joinC (α := AV × Unit → AH → List Nat → R) (fun s2 h3 d4 =>
pNil s2.1 fun v6 =>
pFieldA v6 2 fun v7 =>
pLoad1 h3 v7 fun v8 =>
pInt .neq v8 (.int .i64 (.ofNat 0)) fun v9 =>
pLeave d4 h3 fun h10 =>
some (v9, h10)) fun j5 =>
pNil a0 fun v11 =>
pFieldA v11 2 fun v12 =>
pLoad1 h1 v12 fun v13 =>
pInt .eql v13 (.int .i64 (.ofNat 0)) fun v14 =>
joinC (α := AV × AV × AV × AV × Unit → AH → R) (fun s15 h16 =>
pPick s15.2.1 s15.1 (.bool false) fun v18 =>
pCond v18 (
pFieldA s15.2.2.1 5 fun v19 =>
pLoad1 h16 v19 fun v20 =>
pCall c (.fn 364 [] []) [s15.2.2.2.1, (.int .i64 (.ofNat 4)), v20, (.int .i64 (.negSucc 0))] h16 fun _ h22 =>
j5 (s15.2.2.2.1, ()) h22 []) (
j5 (s15.2.2.2.1, ()) h16 [])) fun j17 =>
pWant v14 true (
pFieldA v0 5 fun v23 =>
pLoad1 h1 v23 fun v24 =>
pInt .neq v24 (.int .i64 (.ofNat 0)) fun v25 =>
j17 (v25, v14, v0, a0, ()) h1) (
j17 (.undef, v14, v0, a0, ()) h1)
theorem S363_eq (c : CV) (a0 a1 : AV) (h : AH) : enterK Tryz.prog NN P363 c 363 [a0, a1] h = S363 c a0 a1 h := by kernel_rfl
def W363 (c : CV) (l : List AV) (h : AH) : R := match l with | [a0, a1] => S363 c a0 a1 h | _ => none
theorem W363_ok : WOk Tryz.prog 363 W363 := by
  intro c l h r e
  unfold W363 at e
  split at e
  · exact ⟨P363, by rw [S363_eq]; exact e⟩
  · cases e
/- (*quietus/patience.Patience).Stop -/
def P364 : Pl := .z
def S364 (_ : CV) (a0 a1 a2 a3 : AV) (h : AH) : R :=
pNil a0 fun v0 =>
pFieldA v0 2 fun v1 =>
pStore h v1 a1 1 fun h2 =>
pNil a0 fun v3 =>
pFieldA v3 4 fun v4 =>
pStore h2 v4 a2 1 fun h5 =>
pNil a0 fun v6 =>
pFieldA v6 3 fun v7 =>
pStore h5 v7 a3 1 fun h8 =>
some ((.tup []), h8)
theorem S364_eq (c : CV) (a0 a1 a2 a3 : AV) (h : AH) : enterK Tryz.prog NN P364 c 364 [a0, a1, a2, a3] h = S364 c a0 a1 a2 a3 h := by kernel_rfl
def W364 (c : CV) (l : List AV) (h : AH) : R := match l with | [a0, a1, a2, a3] => S364 c a0 a1 a2 a3 h | _ => none
theorem W364_ok : WOk Tryz.prog 364 W364 := by
  intro c l h r e
  unfold W364 at e
  split at e
  · exact ⟨P364, by rw [S364_eq]; exact e⟩
  · cases e
/- (*quietus/fetch.Fetch).found -/
def P365 : Pl := (.n none .z (.n none .z (.n (some []) .z .z)))
def S365 (c : CV) (a0 a1 : AV) (h : AH) : R :=
pBox h 60 a1 fun v0 h1 =>
pNil a0 fun v2 =>
pFieldA v2 8 fun v3 =>
pStore h1 v3 (.int .i64 (.ofNat 0)) 1 fun h4 =>
joinC (α := Unit → AH → List Nat → R) (fun _ h6 d7 =>
pLeave d7 h6 fun h9 =>
some ((.tup []), h9)) fun j8 =>
pFieldA v0 1 fun v10 =>
pLoad1 h4 v10 fun v11 =>
pCond v11 (
pNil a0 fun v12 =>
pFieldA v12 0 fun v13 =>
pLoadN h4 v0 3 fun v14 =>
pCall c (.fn 366 [] []) [v13, v14] h4 fun v15 h16 =>
pUn .not v15 fun v17 =>
pCond v17 (
pNil a0 fun v18 =>
pFieldA v18 0 fun v19 =>
pFieldA v0 2 fun v20 =>
pLoad1 h16 v20 fun v21 =>
pCall c (.fn 364 [] []) [v19, (.int .i64 (.ofNat 5)), (.int .i64 (.ofNat 0)), v21] h16 fun _ h23 =>
j8 (()) h23 []) (
j8 (()) h16 [])) (
pFieldA v0 0 fun v24 =>
pLoad1 h4 v24 fun v25 =>
pNil a0 fun v26 =>
pFieldA v26 7 fun v27 =>
pLoad1 h4 v27 fun v28 =>
pInt .gtr v25 v28 fun v29 =>
pCond v29 (
pNil a0 fun v30 =>
pFieldA v30 0 fun v31 =>
pCall c (.fn 364 [] []) [v31, (.int .i64 (.ofNat 6)), (.int .i64 (.ofNat 0)), (.int .i64 (.negSucc 0))] h4 fun _ h33 =>
j8 (()) h33 []) (
pLoadN h4 v0 3 fun v34 =>
pNil a0 fun v35 =>
pFieldA v35 9 fun v36 =>
pStore h4 v36 v34 3 fun h37 =>
pNil a0 fun v38 =>
pFieldA v38 8 fun v39 =>
pStore h37 v39 (.int .i64 (.ofNat 1)) 1 fun h40 =>
j8 (()) h40 []))
theorem S365_eq (c : CV) (a0 a1 : AV) (h : AH) : enterK Tryz.prog NN P365 c 365 [a0, a1] h = S365 c a0 a1 h := by kernel_rfl
def W365 (c : CV) (l : List AV) (h : AH) : R := match l with | [a0, a1] => S365 c a0 a1 h | _ => none
theorem W365_ok : WOk Tryz.prog 365 W365 := by
  intro c l h r e
  unfold W365 at e
  split at e
  · exact ⟨P365, by rw [S365_eq]; exact e⟩
  · cases e
/- (*quietus/patience.Patience).Waits -/
def P366 : Pl := .z
def S366 (_ : CV) (a0 a1 : AV) (h : AH) : R :=
pBox h 60 a1 fun v0 h1 =>
pFieldA v0 2 fun v2 =>
pLoad1 h1 v2 fun v3 =>
pNil a0 fun v4 =>
pFieldA v4 0 fun v5 =>
pLoad1 h1 v5 fun v6 =>
pInt .gtr v3 v6 fun v7 =>
pCond v7 (
some ((.bool true), h1)) (
pNil a0 fun v8 =>
pFieldA v8 1 fun v9 =>
pLoad1 h1 v9 fun v10 =>
pInt .sub v10 (.int .i64 (.ofNat 1)) fun v11 =>
pNil a0 fun v12 =>
pFieldA v12 1 fun v13 =>
pStore h1 v13 v11 1 fun h14 =>
pNil a0 fun v15 =>
pFieldA v15 1 fun v16 =>
pLoad1 h14 v16 fun v17 =>
pInt .geq v17 (.int .i64 (.ofNat 0)) fun v18 =>
some (v18, h14))
theorem S366_eq (c : CV) (a0 a1 : AV) (h : AH) : enterK Tryz.prog NN P366 c 366 [a0, a1] h = S366 c a0 a1 h := by kernel_rfl
def W366 (c : CV) (l : List AV) (h : AH) : R := match l with | [a0, a1] => S366 c a0 a1 h | _ => none
theorem W366_ok : WOk Tryz.prog 366 W366 := by
  intro c l h r e
  unfold W366 at e
  split at e
  · exact ⟨P366, by rw [S366_eq]; exact e⟩
  · cases e
/- (*quietus/extend.Extend).By -/
def P367 : Pl := .z
def S367 (c : CV) (a0 : AV) (h : AH) : R :=
pNil a0 fun v0 =>
pFieldA v0 0 fun v1 =>
pCall c (.fn 362 [] []) [v1] h fun v2 h3 =>
some (v2, h3)
theorem S367_eq (c : CV) (a0 : AV) (h : AH) : enterK Tryz.prog NN P367 c 367 [a0] h = S367 c a0 h := by kernel_rfl
def W367 (c : CV) (l : List AV) (h : AH) : R := match l with | [a0] => S367 c a0 h | _ => none
theorem W367_ok : WOk Tryz.prog 367 W367 := by
  intro c l h r e
  unfold W367 at e
  split at e
  · exact ⟨P367, by rw [S367_eq]; exact e⟩
  · cases e
/- (*quietus/extend.Extend).Next -/
def P368 : Pl := .z
def S368 (c : CV) (a0 : AV) (h : AH) : R :=
pBox h 62 (.agg [(.int .i64 (.ofNat 0)), (.int .i64 (.ofNat 0)), (.int .u64 (.ofNat 0)), (.int .u64 (.ofNat 0)), (.int .u64 (.ofNat 0)), (.bool false), (.int .i64 (.ofNat 0)), (.int .u64 (.ofNat 0)), (.bool false), (.int .i64 (.ofNat 0))]) fun v0 h1 =>
pNil a0 fun v2 =>
pFieldA v2 0 fun v3 =>
pCall c (.fn 122 [] []) [v3] h1 fun v4 h5 =>
pInt .neq v4 (.int .i64 (.ofNat 0)) fun v6 =>
pCond v6 (
pBuild [(.int .i64 (.ofNat 0)), (.int .i64 (.ofNat 0)), (.int .u64 (.ofNat 0)), (.int .u64 (.ofNat 0)), (.int .u64 (.ofNat 0)), (.bool false), (.int .i64 (.ofNat 0)), (.int .u64 (.ofNat 0)), (.bool false), (.int .i64 (.ofNat 0))] [] fun v7 =>
pStore h5 v0 v7 10 fun h8 =>
pLoadN h8 v0 10 fun v9 =>
some ((.tup [v9, (.bool false)]), h8)) (
pNil a0 fun v10 =>
pFieldA v10 6 fun v11 =>
pLoad1 h5 v11 fun v12 =>
pUn .not v12 fun v13 =>
pCond v13 (
pBuild [(.int .i64 (.ofNat 0)), (.int .i64 (.ofNat 0)), (.int .u64 (.ofNat 0)), (.int .u64 (.ofNat 0)), (.int .u64 (.ofNat 0)), (.bool false), (.int .i64 (.ofNat 0)), (.int .u64 (.ofNat 0)), (.bool false), (.int .i64 (.ofNat 0))] [(0, 1, (.int .i64 (.ofNat 6)))] fun v14 =>
pStore h5 v0 v14 10 fun h15 =>
pLoadN h15 v0 10 fun v16 =>
some ((.tup [v16, (.bool true)]), h15)) (
pNil a0 fun v17 =>
pFieldA v17 5 fun v18 =>
pLoad1 h5 v18 fun v19 =>
pNil a0 fun v20 =>
pFieldA v20 7 fun v21 =>
pLoad1 h5 v21 fun v22 =>
pIdxS v19 v22 2 fun v23 =>
pFieldA v23 0 fun v24 =>
pLoad1 h5 v24 fun v25 =>
pBuild [(.int .i64 (.ofNat 0)), (.int .i64 (.ofNat 0)), (.int .u64 (.ofNat 0)), (.int .u64 (.ofNat 0)), (.int .u64 (.ofNat 0)), (.bool false), (.int .i64 (.ofNat 0)), (.int .u64 (.ofNat 0)), (.bool false), (.int .i64 (.ofNat 0))] [(0, 1, (.int .i64 (.ofNat 3))), (1, 1, v25)] fun v26 =>
pStore h5 v0 v26 10 fun h27 =>
pLoadN h27 v0 10 fun v28 =>
some ((.tup [v28, (.bool true)]), h27)))
theorem S368_eq (c : CV) (a0 : AV) (h : AH) : enterK Tryz.prog NN P368 c 368 [a0] h = S368 c a0 h := by kernel_rfl
def W368 (c : CV) (l : List AV) (h : AH) : R := match l with | [a0] => S368 c a0 h | _ => none
theorem W368_ok : WOk Tryz.prog 368 W368 := by
  intro c l h r e
  unfold W368 at e
  split at e
  · exact ⟨P368, by rw [S368_eq]; exact e⟩
  · cases e
/- (*quietus/extend.Extend).Tell -/
def P369 : Pl := (.n none .z (.n none (.n (some [0]) (.n none .z (.n none .z (.n none .z (.n none (.r [[0]]) (.n none .z (.n none (.n (some []) .z .z) .z)))))) .z) .z))
def S369 (c : CV) (a0 a1 : AV) (h : AH) : R :=
pBox h 67 a1 fun v0 h1 =>
joinC (α := AV × Unit → AH → List Nat → R) (fun s2 h3 d4 =>
pNil s2.1 fun v6 =>
pFieldA v6 7 fun v7 =>
pLoad1 h3 v7 fun v8 =>
pNil s2.1 fun v9 =>
pFieldA v9 5 fun v10 =>
pLoad1 h3 v10 fun v11 =>
pLenS v11 fun v12 =>
pInt .eql v8 v12 fun v13 =>
pCond v13 (
pNil s2.1 fun v14 =>
pFieldA v14 0 fun v15 =>
pCall c (.fn 364 [] []) [v15, (.int .i64 (.ofNat 2)), (.int .i64 (.ofNat 0)), (.int .i64 (.negSucc 0))] h3 fun _ h17 =>
pLeave d4 h17 fun h18 =>
some ((.tup []), h18)) (
pLeave d4 h3 fun h19 =>
some ((.tup []), h19))) fun j5 =>
pNil a0 fun v20 =>
pFieldA v20 0 fun v21 =>
pLoadN h1 v0 6 fun v22 =>
pCall c (.fn 363 [] []) [v21, v22] h1 fun v23 h24 =>
pCond v23 (
some ((.tup []), h24)) (
pNil a0 fun v25 =>
pFieldA v25 6 fun v26 =>
pLoad1 h24 v26 fun v27 =>
pUn .not v27 fun v28 =>
pCond v28 (
joinC (α := AV × Unit → AH → R) (fun s29 h30 =>
j5 (s29.1, ()) h30 []) fun j31 =>
pFieldA v0 0 fun v32 =>
pLoad1 h24 v32 fun v33 =>
pNil a0 fun v34 =>
pFieldA v34 6 fun v35 =>
pStore h24 v35 (.bool true) 1 fun h36 =>
pNil a0 fun v37 =>
pFieldA v37 8 fun v38 =>
pStore h36 v38 v33 1 fun h39 =>
pChk v32 none v33 h24 h36 h24.nx <|
j31 (a0, ()) h39) (
pFieldA v0 1 fun v40 =>
pFieldA v40 1 fun v41 =>
pLoad1 h24 v41 fun v42 =>
pCond v42 (
joinC (α := Unit → AH → List Nat → R) (fun _ h44 d45 =>
pLeave d45 h44 fun h47 =>
some ((.tup []), h47)) fun j46 =>
pNil a0 fun v48 =>
pFieldA v48 0 fun v49 =>
pFieldA v0 1 fun v50 =>
pLoadN h24 v50 3 fun v51 =>
pCall c (.fn 366 [] []) [v49, v51] h24 fun v52 h53 =>
pUn .not v52 fun v54 =>
pCond v54 (
pNil a0 fun v55 =>
pFieldA v55 0 fun v56 =>
pFieldA v0 1 fun v57 =>
pFieldA v57 2 fun v58 =>
pLoad1 h53 v58 fun v59 =>
pCall c (.fn 364 [] []) [v56, (.int .i64 (.ofNat 5)), (.int .i64 (.ofNat 0)), v59] h53 fun _ h61 =>
j46 (()) h61 []) (
j46 (()) h53 [])) (
pFieldA v0 1 fun v62 =>
pFieldA v62 0 fun v63 =>
pLoad1 h24 v63 fun v64 =>
pNil a0 fun v65 =>
pFieldA v65 5 fun v66 =>
pLoad1 h24 v66 fun v67 =>
pNil a0 fun v68 =>
pFieldA v68 7 fun v69 =>
pLoad1 h24 v69 fun v70 =>
pIdxS v67 v70 2 fun v71 =>
pFieldA v71 1 fun v72 =>
pLoad1 h24 v72 fun v73 =>
pInt .neq v64 v73 fun v74 =>
pCond v74 (
pNil a0 fun v75 =>
pFieldA v75 0 fun v76 =>
pCall c (.fn 364 [] []) [v76, (.int .i64 (.ofNat 5)), (.int .i64 (.ofNat 0)), (.int .i64 (.negSucc 0))] h24 fun _ h78 =>
some ((.tup []), h78)) (
pNil a0 fun v79 =>
pFieldA v79 7 fun v80 =>
pLoad1 h24 v80 fun v81 =>
pInt .add v81 (.int .i64 (.ofNat 1)) fun v82 =>
pNil a0 fun v83 =>
pFieldA v83 7 fun v84 =>
pStore h24 v84 v82 1 fun h85 =>
j5 (a0, ()) h85 []))))
theorem S369_eq (c : CV) (a0 a1 : AV) (h : AH) : enterK Tryz.prog NN P369 c 369 [a0, a1] h = S369 c a0 a1 h := by kernel_rfl
def W369 (c : CV) (l : List AV) (h : AH) : R := match l with | [a0, a1] => S369 c a0 a1 h | _ => none
theorem W369_ok : WOk Tryz.prog 369 W369 := by
  intro c l h r e
  unfold W369 at e
  split at e
  · exact ⟨P369, by rw [S369_eq]; exact e⟩
  · cases e
/- (*quietus/commit.Commit).By -/
def P370 : Pl := .z
def S370 (c : CV) (a0 : AV) (h : AH) : R :=
pNil a0 fun v0 =>
pFieldA v0 0 fun v1 =>
pCall c (.fn 362 [] []) [v1] h fun v2 h3 =>
some (v2, h3)
theorem S370_eq (c : CV) (a0 : AV) (h : AH) : enterK Tryz.prog NN P370 c 370 [a0] h = S370 c a0 h := by kernel_rfl
def W370 (c : CV) (l : List AV) (h : AH) : R := match l with | [a0] => S370 c a0 h | _ => none
theorem W370_ok : WOk Tryz.prog 370 W370 := by
  intro c l h r e
  unfold W370 at e
  split at e
  · exact ⟨P370, by rw [S370_eq]; exact e⟩
  · cases e
/- (*quietus/commit.Commit).Next -/
def P371 : Pl := .z
def S371 (c : CV) (a0 : AV) (h : AH) : R :=
pBox h 62 (.agg [(.int .i64 (.ofNat 0)), (.int .i64 (.ofNat 0)), (.int .u64 (.ofNat 0)), (.int .u64 (.ofNat 0)), (.int .u64 (.ofNat 0)), (.bool false), (.int .i64 (.ofNat 0)), (.int .u64 (.ofNat 0)), (.bool false), (.int .i64 (.ofNat 0))]) fun v0 h1 =>
pNil a0 fun v2 =>
pFieldA v2 0 fun v3 =>
pCall c (.fn 122 [] []) [v3] h1 fun v4 h5 =>
pInt .neq v4 (.int .i64 (.ofNat 0)) fun v6 =>
pCond v6 (
pBuild [(.int .i64 (.ofNat 0)), (.int .i64 (.ofNat 0)), (.int .u64 (.ofNat 0)), (.int .u64 (.ofNat 0)), (.int .u64 (.ofNat 0)), (.bool false), (.int .i64 (.ofNat 0)), (.int .u64 (.ofNat 0)), (.bool false), (.int .i64 (.ofNat 0))] [] fun v7 =>
pStore h5 v0 v7 10 fun h8 =>
pLoadN h8 v0 10 fun v9 =>
some ((.tup [v9, (.bool false)]), h8)) (
pNil a0 fun v10 =>
pFieldA v10 11 fun v11 =>
pLoad1 h5 v11 fun v12 =>
pInt .eql v12 (.int .i64 (.ofNat 0)) fun v13 =>
pCond v13 (
pNil a0 fun v14 =>
pFieldA v14 9 fun v15 =>
pLoad1 h5 v15 fun v16 =>
pNil a0 fun v17 =>
pFieldA v17 10 fun v18 =>
pLoad1 h5 v18 fun v19 =>
pLenS v19 fun v20 =>
pIdxS v16 v20 1 fun v21 =>
pLoad1 h5 v21 fun v22 =>
pBuild [(.int .i64 (.ofNat 0)), (.int .i64 (.ofNat 0)), (.int .u64 (.ofNat 0)), (.int .u64 (.ofNat 0)), (.int .u64 (.ofNat 0)), (.bool false), (.int .i64 (.ofNat 0)), (.int .u64 (.ofNat 0)), (.bool false), (.int .i64 (.ofNat 0))] [(0, 1, (.int .i64 (.ofNat 3))), (1, 1, v22)] fun v23 =>
pStore h5 v0 v23 10 fun h24 =>
pLoadN h24 v0 10 fun v25 =>
some ((.tup [v25, (.bool true)]), h24)) (
pInt .eql v12 (.int .i64 (.ofNat 1)) fun v26 =>
pCond v26 (
pNil a0 fun v27 =>
pFieldA v27 13 fun v28 =>
pFieldA v28 0 fun v29 =>
pLoad1 h5 v29 fun v30 =>
pNil a0 fun v31 =>
pFieldA v31 5 fun v32 =>
pLoad1 h5 v32 fun v33 =>
pBuild [(.int .u64 (.ofNat 0)), (.bool false), (.int .i64 (.ofNat 0))] [(0, 1, v30), (1, 1, (.bool true)), (2, 1, v33)] fun v34 =>
pBox h5 60 (.agg [(.int .u64 (.ofNat 0)), (.bool false), (.int .i64 (.ofNat 0))]) fun v35 h36 =>
pStore h36 v35 v34 3 fun h37 =>
pNil a0 fun v38 =>
pFieldA v38 9 fun v39 =>
pLoad1 h37 v39 fun v40 =>
pNil a0 fun v41 =>
pFieldA v41 10 fun v42 =>
pLoad1 h37 v42 fun v43 =>
pLenS v43 fun v44 =>
pIdxS v40 v44 1 fun v45 =>
pLoad1 h37 v45 fun v46 =>
pNil a0 fun v47 =>
pFieldA v47 13 fun v48 =>
pLoadN h37 v48 3 fun v49 =>
pLoadN h37 v35 3 fun v50 =>
pBuild [(.int .i64 (.ofNat 0)), (.int .i64 (.ofNat 0)), (.int .u64 (.ofNat 0)), (.int .u64 (.ofNat 0)), (.int .u64 (.ofNat 0)), (.bool false), (.int .i64 (.ofNat 0)), (.int .u64 (.ofNat 0)), (.bool false), (.int .i64 (.ofNat 0))] [(0, 1, (.int .i64 (.ofNat 4))), (1, 1, v46), (4, 3, v49), (7, 3, v50)] fun v51 =>
pStore h37 v0 v51 10 fun h52 =>
pLoadN h52 v0 10 fun v53 =>
some ((.tup [v53, (.bool true)]), h52)) (
pInt .eql v12 (.int .i64 (.ofNat 2)) fun v54 =>
pCond v54 (
pBuild [(.int .i64 (.ofNat 0)), (.int .i64 (.ofNat 0)), (.int .u64 (.ofNat 0)), (.int .u64 (.ofNat 0)), (.int .u64 (.ofNat 0)), (.bool false), (.int .i64 (.ofNat 0)), (.int .u64 (.ofNat 0)), (.bool false), (.int .i64 (.ofNat 0))] [(0, 1, (.int .i64 (.ofNat 6)))] fun v55 =>
pStore h5 v0 v55 10 fun h56 =>
pLoadN h56 v0 10 fun v57 =>
some ((.tup [v57, (.bool true)]), h56)) (
pInt .eql v12 (.int .i64 (.ofNat 3)) fun v58 =>
pCond v58 (
pNil a0 fun v59 =>
pFieldA v59 16 fun v60 =>
pLoad1 h5 v60 fun v61 =>
pNil a0 fun v62 =>
pFieldA v62 16 fun v63 =>
pLoad1 h5 v63 fun v64 =>
pInt .add v64 (.int .u64 (.ofNat 1)) fun v65 =>
pBuild [(.int .i64 (.ofNat 0)), (.int .i64 (.ofNat 0)), (.int .u64 (.ofNat 0)), (.int .u64 (.ofNat 0)), (.int .u64 (.ofNat 0)), (.bool false), (.int .i64 (.ofNat 0)), (.int .u64 (.ofNat 0)), (.bool false), (.int .i64 (.ofNat 0))] [(0, 1, (.int .i64 (.ofNat 7))), (2, 1, v61), (3, 1, v65)] fun v66 =>
pStore h5 v0 v66 10 fun h67 =>
pLoadN h67 v0 10 fun v68 =>
some ((.tup [v68, (.bool true)]), h67)) (
pInt .eql v12 (.int .i64 (.ofNat 4)) fun v69 =>
pCond v69 (
pNil a0 fun v70 =>
pFieldA v70 7 fun v71 =>
pLoad1 h5 v71 fun v72 =>
pNil a0 fun v73 =>
pFieldA v73 12 fun v74 =>
pLoad1 h5 v74 fun v75 =>
pIdxS v72 v75 2 fun v76 =>
pFieldA v76 0 fun v77 =>
pLoad1 h5 v77 fun v78 =>
pBuild [(.int .i64 (.ofNat 0)), (.int .i64 (.ofNat 0)), (.int .u64 (.ofNat 0)), (.int .u64 (.ofNat 0)), (.int .u64 (.ofNat 0)), (.bool false), (.int .i64 (.ofNat 0)), (.int .u64 (.ofNat 0)), (.bool false), (.int .i64 (.ofNat 0))] [(0, 1, (.int .i64 (.ofNat 3))), (1, 1, v78)] fun v79 =>
pStore h5 v0 v79 10 fun h80 =>
pLoadN h80 v0 10 fun v81 =>
some ((.tup [v81, (.bool true)]), h80)) (
pInt .eql v12 (.int .i64 (.ofNat 5)) fun v82 =>
pCond v82 (
pNil a0 fun v83 =>
pFieldA v83 8 fun v84 =>
pLoad1 h5 v84 fun v85 =>
pNil a0 fun v86 =>
pFieldA v86 12 fun v87 =>
pLoad1 h5 v87 fun v88 =>
pIdxS v85 v88 2 fun v89 =>
pFieldA v89 0 fun v90 =>
pLoad1 h5 v90 fun v91 =>
pNil a0 fun v92 =>
pFieldA v92 8 fun v93 =>
pLoad1 h5 v93 fun v94 =>
pNil a0 fun v95 =>
pFieldA v95 12 fun v96 =>
pLoad1 h5 v96 fun v97 =>
pIdxS v94 v97 2 fun v98 =>
pFieldA v98 1 fun v99 =>
pLoad1 h5 v99 fun v100 =>
pBuild [(.int .i64 (.ofNat 0)), (.int .i64 (.ofNat 0)), (.int .u64 (.ofNat 0)), (.int .u64 (.ofNat 0)), (.int .u64 (.ofNat 0)), (.bool false), (.int .i64 (.ofNat 0)), (.int .u64 (.ofNat 0)), (.bool false), (.int .i64 (.ofNat 0))] [(0, 1, (.int .i64 (.ofNat 2))), (1, 1, v91), (3, 1, v100)] fun v101 =>
pStore h5 v0 v101 10 fun h102 =>
pLoadN h102 v0 10 fun v103 =>
some ((.tup [v103, (.bool true)]), h102)) (
pInt .eql v12 (.int .i64 (.ofNat 6)) fun v104 =>
pCond v104 (
pNil a0 fun v105 =>
pFieldA v105 9 fun v106 =>
pLoad1 h5 v106 fun v107 =>
pNil a0 fun v108 =>
pFieldA v108 12 fun v109 =>
pLoad1 h5 v109 fun v110 =>
pIdxS v107 v110 1 fun v111 =>
pLoad1 h5 v111 fun v112 =>
pNil a0 fun v113 =>
pFieldA v113 16 fun v114 =>
pLoad1 h5 v114 fun v115 =>
pInt .add v115 (.int .u64 (.ofNat 1)) fun v116 =>
pBuild [(.int .u64 (.ofNat 0)), (.bool false), (.int .i64 (.ofNat 0))] [(0, 1, v116)] fun v117 =>
pBuild [(.int .i64 (.ofNat 0)), (.int .i64 (.ofNat 0)), (.int .u64 (.ofNat 0)), (.int .u64 (.ofNat 0)), (.int .u64 (.ofNat 0)), (.bool false), (.int .i64 (.ofNat 0)), (.int .u64 (.ofNat 0)), (.bool false), (.int .i64 (.ofNat 0))] [(0, 1, (.int .i64 (.ofNat 5))), (1, 1, v112), (7, 3, v117)] fun v118 =>
pStore h5 v0 v118 10 fun h119 =>
pLoadN h119 v0 10 fun v120 =>
some ((.tup [v120, (.bool true)]), h119)) (
pNil a0 fun v121 =>
pFieldA v121 9 fun v122 =>
pLoad1 h5 v122 fun v123 =>
pNil a0 fun v124 =>
pFieldA v124 12 fun v125 =>
pLoad1 h5 v125 fun v126 =>
pIdxS v123 v126 1 fun v127 =>
pLoad1 h5 v127 fun v128 =>
pNil a0 fun v129 =>
pFieldA v129 10 fun v130 =>
pLoad1 h5 v130 fun v131 =>
pNil a0 fun v132 =>
pFieldA v132 12 fun v133 =>
pLoad1 h5 v133 fun v134 =>
pIdxS v131 v134 3 fun v135 =>
pLoadN h5 v135 3 fun v136 =>
pBuild [(.int .i64 (.ofNat 0)), (.int .i64 (.ofNat 0)), (.int .u64 (.ofNat 0)), (.int .u64 (.ofNat 0)), (.int .u64 (.ofNat 0)), (.bool false), (.int .i64 (.ofNat 0)), (.int .u64 (.ofNat 0)), (.bool false), (.int .i64 (.ofNat 0))] [(0, 1, (.int .i64 (.ofNat 5))), (1, 1, v128), (7, 3, v136)] fun v137 =>
pStore h5 v0 v137 10 fun h138 =>
pLoadN h138 v0 10 fun v139 =>
some ((.tup [v139, (.bool true)]), h138)))))))))
theorem S371_eq (c : CV) (a0 : AV) (h : AH) : enterK Tryz.prog NN P371 c 371 [a0] h = S371 c a0 h := by kernel_rfl
def W371 (c : CV) (l : List AV) (h : AH) : R := match l with | [a0] => S371 c a0 h | _ => none
theorem W371_ok : WOk Tryz.prog 371 W371 := by
  intro c l h r e
  unfold W371 at e
  split at e
  · exact ⟨P371, by rw [S371_eq]; exact e⟩
  · cases e
/- (*quietus/commit.Commit).Tell -/
def P372 : Pl := (.n none .z (.n none .z (.n none .z (.n (some []) (.n (some [13, 12, 3, 0]) .z (.n none .z (.n (some [19, 12, 3, 0]) .z .z))) .z))))
def S372 (c : CV) (a0 a1 : AV) (h : AH) : R :=
pBox h 67 a1 fun v0 h1 =>
pNil a0 fun v2 =>
pFieldA v2 0 fun v3 =>
pLoadN h1 v0 6 fun v4 =>
pCall c (.fn 363 [] []) [v3, v4] h1 fun v5 h6 =>
pCond v5 (
some ((.tup []), h6)) (
pNil a0 fun v7 =>
pFieldA v7 11 fun v8 =>
pLoad1 h6 v8 fun v9 =>
joinC (α := Unit → AH → List Nat → R) (fun _ h11 d12 =>
pLeave d12 h11 fun h14 =>
some ((.tup []), h14)) fun j13 =>
joinC (α := AV × AV × AV × AV × Unit → AH → List Nat → R) (fun s15 h16 d17 =>
pCond s15.1 (
pLoadN h16 s15.2.2.1 6 fun v19 =>
pCall c (.fn 374 [] []) [s15.2.2.2.1, v19] h16 fun _ h21 =>
j13 (()) h21 d17) (
joinC (α := AV × AV × AV × AV × Unit → AH → List Nat → R) (fun s22 h23 d24 =>
pCond s22.1 (
pLoadN h23 s22.2.2.1 6 fun v26 =>
pCall c (.fn 375 [] []) [s22.2.2.2.1, v26] h23 fun _ h28 =>
j13 (()) h28 d24) (
pInt .eql s22.2.1 (.int .i64 (.ofNat 4)) fun v29 =>
pCond v29 (
pFieldA s22.2.2.1 1 fun v30 =>
pLoadN h23 v30 3 fun v31 =>
pCall c (.fn 376 [] []) [s22.2.2.2.1, v31] h23 fun _ h33 =>
j13 (()) h33 d24) (
pInt .eql s22.2.1 (.int .i64 (.ofNat 5)) fun v34 =>
pCond v34 (
pNil s22.2.2.2.1 fun v35 =>
pFieldA v35 12 fun v36 =>
pLoad1 h23 v36 fun v37 =>
pInt .add v37 (.int .i64 (.ofNat 1)) fun v38 =>
pNil s22.2.2.2.1 fun v39 =>
pFieldA v39 12 fun v40 =>
pStore h23 v40 v38 1 fun h41 =>
pCall c (.fn 377 [] []) [s22.2.2.2.1] h41 fun _ h43 =>
j13 (()) h43 d24) (
pInt .eql s22.2.1 (.int .i64 (.ofNat 6)) fun v44 =>
pCond v44 (
pNil s22.2.2.2.1 fun v45 =>
pFieldA v45 12 fun v46 =>
pLoad1 h23 v46 fun v47 =>
pInt .add v47 (.int .i64 (.ofNat 1)) fun v48 =>
pNil s22.2.2.2.1 fun v49 =>
pFieldA v49 12 fun v50 =>
pStore h23 v50 v48 1 fun h51 =>
pCall c (.fn 378 [] []) [s22.2.2.2.1] h51 fun _ h53 =>
j13 (()) h53 d24) (
pInt .eql s22.2.1 (.int .i64 (.ofNat 7)) fun v54 =>
pCond v54 (
pNil s22.2.2.2.1 fun v55 =>
pFieldA v55 12 fun v56 =>
pLoad1 h23 v56 fun v57 =>
pInt .add v57 (.int .i64 (.ofNat 1)) fun v58 =>
pNil s22.2.2.2.1 fun v59 =>
pFieldA v59 12 fun v60 =>
pStore h23 v60 v58 1 fun h61 =>
pCall c (.fn 379 [] []) [s22.2.2.2.1] h61 fun _ h63 =>
j13 (()) h63 d24) (
j13 (()) h23 d24)))))) fun j25 =>
pInt .eql s15.2.1 (.int .i64 (.ofNat 2)) fun v64 =>
pCond v64 (
j25 (v64, s15.2.1, s15.2.2.1, s15.2.2.2.1, ()) h16 d17) (
pInt .eql s15.2.1 (.int .i64 (.ofNat 3)) fun v65 =>
j25 (v65, s15.2.1, s15.2.2.1, s15.2.2.2.1, ()) h16 d17))) fun j18 =>
pInt .eql v9 (.int .i64 (.ofNat 0)) fun v66 =>
pCond v66 (
j18 (v66, v9, v0, a0, ()) h6 []) (
pInt .eql v9 (.int .i64 (.ofNat 1)) fun v67 =>
j18 (v67, v9, v0, a0, ()) h6 []))
theorem S372_eq (c : CV) (a0 a1 : AV) (h : AH) : enterK Tryz.prog NN P372 c 372 [a0, a1] h = S372 c a0 a1 h := by kernel_rfl
def W372 (c : CV) (l : List AV) (h : AH) : R := match l with | [a0, a1] => S372 c a0 a1 h | _ => none
theorem W372_ok : WOk Tryz.prog 372 W372 := by
  intro c l h r e
  unfold W372 at e
  split at e
  · exact ⟨P372, by rw [S372_eq]; exact e⟩
  · cases e
/- (*quietus/commit.Commit).begin -/
def P373 : Pl := .z
def S373 (c : CV) (a0 : AV) (h : AH) : R :=
pNil a0 fun v0 =>
pFieldA v0 17 fun v1 =>
pStore h v1 (.bool true) 1 fun h2 =>
pNil a0 fun v3 =>
pFieldA v3 12 fun v4 =>
pStore h2 v4 (.int .i64 (.ofNat 0)) 1 fun h5 =>
pNil a0 fun v6 =>
pFieldA v6 11 fun v7 =>
pStore h5 v7 (.int .i64 (.ofNat 5)) 1 fun h8 =>
pCall c (.fn 377 [] []) [a0] h8 fun _ h10 =>
some ((.tup []), h10)
theorem S373_eq (c : CV) (a0 : AV) (h : AH) : enterK Tryz.prog NN P373 c 373 [a0] h = S373 c a0 h := by kernel_rfl
def W373 (c : CV) (l : List AV) (h : AH) : R := match l with | [a0] => S373 c a0 h | _ => none
theorem W373_ok : WOk Tryz.prog 373 W373 := by
  intro c l h r e
  unfold W373 at e
  split at e
  · exact ⟨P373, by rw [S373_eq]; exact e⟩
  · cases e
/- (*quietus/commit.Commit).take -/
def P374 : Pl := (.n none .z (.n (some []) (.n none (.r [[16, 13, 3, 0]]) .z) .z))
def S374 (c : CV) (a0 a1 : AV) (h : AH) : R :=
pBox h 67 a1 fun v0 h1 =>
joinC (α := Unit → AH → List Nat → R) (fun _ h3 d4 =>
pLeave d4 h3 fun h6 =>
some ((.tup []), h6)) fun j5 =>
pNil a0 fun v7 =>
pFieldA v7 11 fun v8 =>
pLoad1 h1 v8 fun v9 =>
pInt .eql v9 (.int .i64 (.ofNat 0)) fun v10 =>
joinC (α := AV × AV × AV × AV × Unit → AH → R) (fun s11 h12 =>
pPick s11.2.1 s11.1 (.bool false) fun v14 =>
pCond v14 (
pFieldA s11.2.2.1 1 fun v15 =>
pLoadN h12 v15 3 fun v16 =>
pCall c (.fn 380 [] []) [s11.2.2.2.1, v16] h12 fun _ h18 =>
j5 (()) h18 []) (
pNil s11.2.2.2.1 fun v19 =>
pFieldA v19 11 fun v20 =>
pLoad1 h12 v20 fun v21 =>
pInt .eql v21 (.int .i64 (.ofNat 0)) fun v22 =>
pCond v22 (
pFieldA s11.2.2.1 1 fun v23 =>
pLoadN h12 v23 3 fun v24 =>
pNil s11.2.2.2.1 fun v25 =>
pFieldA v25 13 fun v26 =>
pStore h12 v26 v24 3 fun h27 =>
pNil s11.2.2.2.1 fun v28 =>
pFieldA v28 11 fun v29 =>
pStore h27 v29 (.int .i64 (.ofNat 1)) 1 fun h30 =>
j5 (()) h30 []) (
pFieldA s11.2.2.1 4 fun v31 =>
pLoad1 h12 v31 fun v32 =>
pCond v32 (
pNil s11.2.2.2.1 fun v33 =>
pFieldA v33 10 fun v34 =>
pLoad1 h12 v34 fun v35 =>
pNil s11.2.2.2.1 fun v36 =>
pFieldA v36 13 fun v37 =>
pLoadN h12 v37 3 fun v38 =>
pBuildS h12 60 [(.int .u64 (.ofNat 0)), (.bool false), (.int .i64 (.ofNat 0))] 1 [(0, 3, v38)] fun v39 h40 =>
pAppend h40 60 3 v35 v39 fun v41 h42 =>
pNil s11.2.2.2.1 fun v43 =>
pFieldA v43 10 fun v44 =>
pStore h42 v44 v41 1 fun h45 =>
pCall c (.fn 139 [] []) [s11.2.2.2.1] h45 fun _ h47 =>
j5 (()) h47 []) (
pNil s11.2.2.2.1 fun v48 =>
pFieldA v48 11 fun v49 =>
pStore h12 v49 (.int .i64 (.ofNat 0)) 1 fun h50 =>
j5 (()) h50 [])))) fun j13 =>
pWant v10 true (
pFieldA v0 1 fun v51 =>
pFieldA v51 1 fun v52 =>
pLoad1 h1 v52 fun v53 =>
j13 (v53, v10, v0, a0, ()) h1) (
j13 (.undef, v10, v0, a0, ()) h1)
theorem S374_eq (c : CV) (a0 a1 : AV) (h : AH) : enterK Tryz.prog NN P374 c 374 [a0, a1] h = S374 c a0 a1 h := by kernel_rfl
def W374 (c : CV) (l : List AV) (h : AH) : R := match l with | [a0, a1] => S374 c a0 a1 h | _ => none
theorem W374_ok : WOk Tryz.prog 374 W374 := by
  intro c l h r e
  unfold W374 at e
  split at e
  · exact ⟨P374, by rw [S374_eq]; exact e⟩
  · cases e
/- (*quietus/commit.Commit).raise -/
def P375 : Pl := (.n none .z (.n (some []) (.n none (.r [[15, 12, 3, 0]]) .z) .z))
def S375 (c : CV) (a0 a1 : AV) (h : AH) : R :=
pBox h 67 a1 fun v0 h1 =>
joinC (α := Unit → AH → List Nat → R) (fun _ h3 d4 =>
pLeave d4 h3 fun h6 =>
some ((.tup []), h6)) fun j5 =>
pNil a0 fun v7 =>
pFieldA v7 11 fun v8 =>
pLoad1 h1 v8 fun v9 =>
pInt .eql v9 (.int .i64 (.ofNat 2)) fun v10 =>
joinC (α := AV × AV × AV × AV × Unit → AH → R) (fun s11 h12 =>
pPick s11.2.1 s11.1 (.bool false) fun v14 =>
pCond v14 (
pCall c (.fn 381 [] []) [s11.2.2.2.1, (.int .i64 (.ofNat 4)), (.int .i64 (.ofNat 7)), (.int .i64 (.negSucc 0))] h12 fun _ h16 =>
j5 (()) h16 []) (
pNil s11.2.2.2.1 fun v17 =>
pFieldA v17 11 fun v18 =>
pLoad1 h12 v18 fun v19 =>
pInt .eql v19 (.int .i64 (.ofNat 2)) fun v20 =>
pCond v20 (
pFieldA s11.2.2.1 0 fun v21 =>
pLoad1 h12 v21 fun v22 =>
pNil s11.2.2.2.1 fun v23 =>
pFieldA v23 16 fun v24 =>
pStore h12 v24 v22 1 fun h25 =>
pNil s11.2.2.2.1 fun v26 =>
pFieldA v26 11 fun v27 =>
pStore h25 v27 (.int .i64 (.ofNat 3)) 1 fun h28 =>
j5 (()) h28 []) (
pFieldA s11.2.2.1 4 fun v29 =>
pLoad1 h12 v29 fun v30 =>
pUn .not v30 fun v31 =>
pCond v31 (
pNil s11.2.2.2.1 fun v32 =>
pFieldA v32 11 fun v33 =>
pStore h12 v33 (.int .i64 (.ofNat 2)) 1 fun h34 =>
j5 (()) h34 []) (
pNil s11.2.2.2.1 fun v35 =>
pFieldA v35 16 fun v36 =>
pLoad1 h12 v36 fun v37 =>
pNil s11.2.2.2.1 fun v38 =>
pFieldA v38 6 fun v39 =>
pLoad1 h12 v39 fun v40 =>
pInt .eql v37 v40 fun v41 =>
pCond v41 (
pCall c (.fn 373 [] []) [s11.2.2.2.1] h12 fun _ h43 =>
j5 (()) h43 []) (
pCall c (.fn 382 [] []) [s11.2.2.2.1] h12 fun _ h45 =>
j5 (()) h45 []))))) fun j13 =>
pWant v10 true (
pFieldA v0 0 fun v46 =>
pLoad1 h1 v46 fun v47 =>
pInt .geq v47 (.int .u64 (.ofNat 4611686018427387903)) fun v48 =>
j13 (v48, v10, v0, a0, ()) h1) (
j13 (.undef, v10, v0, a0, ()) h1)
theorem S375_eq (c : CV) (a0 a1 : AV) (h : AH) : enterK Tryz.prog NN P375 c 375 [a0, a1] h = S375 c a0 a1 h := by kernel_rfl
def W375 (c : CV) (l : List AV) (h : AH) : R := match l with | [a0, a1] => S375 c a0 a1 h | _ => none
theorem W375_ok : WOk Tryz.prog 375 W375 := by
  intro c l h r e
  unfold W375 at e
  split at e
  · exact ⟨P375, by rw [S375_eq]; exact e⟩
  · cases e
/- (*quietus/commit.Commit).proved -/
def P376 : Pl := (.n none .z (.n (some []) .z .z))
def S376 (c : CV) (a0 a1 : AV) (h : AH) : R :=
pBox h 60 a1 fun v0 h1 =>
joinC (α := Unit → AH → List Nat → R) (fun _ h3 d4 =>
pLeave d4 h3 fun h6 =>
some ((.tup []), h6)) fun j5 =>
pFieldA v0 1 fun v7 =>
pLoad1 h1 v7 fun v8 =>
pCond v8 (
pLoadN h1 v0 3 fun v9 =>
pCall c (.fn 380 [] []) [a0, v9] h1 fun _ h11 =>
j5 (()) h11 []) (
pFieldA v0 0 fun v12 =>
pLoad1 h1 v12 fun v13 =>
pNil a0 fun v14 =>
pFieldA v14 7 fun v15 =>
pLoad1 h1 v15 fun v16 =>
pNil a0 fun v17 =>
pFieldA v17 12 fun v18 =>
pLoad1 h1 v18 fun v19 =>
pIdxS v16 v19 2 fun v20 =>
pFieldA v20 1 fun v21 =>
pLoad1 h1 v21 fun v22 =>
pInt .neq v13 v22 fun v23 =>
pCond v23 (
pCall c (.fn 381 [] []) [a0, (.int .i64 (.ofNat 5)), (.int .i64 (.ofNat 0)), (.int .i64 (.negSucc 0))] h1 fun _ h25 =>
j5 (()) h25 []) (
pNil a0 fun v26 =>
pFieldA v26 12 fun v27 =>
pLoad1 h1 v27 fun v28 =>
pInt .add v28 (.int .i64 (.ofNat 1)) fun v29 =>
pNil a0 fun v30 =>
pFieldA v30 12 fun v31 =>
pStore h1 v31 v29 1 fun h32 =>
pCall c (.fn 382 [] []) [a0] h32 fun _ h34 =>
j5 (()) h34 []))
theorem S376_eq (c : CV) (a0 a1 : AV) (h : AH) : enterK Tryz.prog NN P376 c 376 [a0, a1] h = S376 c a0 a1 h := by kernel_rfl
def W376 (c : CV) (l : List AV) (h : AH) : R := match l with | [a0, a1] => S376 c a0 a1 h | _ => none
theorem W376_ok : WOk Tryz.prog 376 W376 := by
  intro c l h r e
  unfold W376 at e
  split at e
  · exact ⟨P376, by rw [S376_eq]; exact e⟩
  · cases e
/- (*quietus/commit.Commit).write -/
def P377 : Pl := .z
def S377 (c : CV) (a0 : AV) (h : AH) : R :=
pNil a0 fun v0 =>
pFieldA v0 12 fun v1 =>
pLoad1 h v1 fun v2 =>
pNil a0 fun v3 =>
pFieldA v3 8 fun v4 =>
pLoad1 h v4 fun v5 =>
pLenS v5 fun v6 =>
pInt .eql v2 v6 fun v7 =>
pCond v7 (
pNil a0 fun v8 =>
pFieldA v8 12 fun v9 =>
pStore h v9 (.int .i64 (.ofNat 0)) 1 fun h10 =>
pNil a0 fun v11 =>
pFieldA v11 11 fun v12 =>
pStore h10 v12 (.int .i64 (.ofNat 6)) 1 fun h13 =>
pCall c (.fn 378 [] []) [a0] h13 fun _ h15 =>
some ((.tup []), h15)) (
some ((.tup []), h))
theorem S377_eq (c : CV) (a0 : AV) (h : AH) : enterK Tryz.prog NN P377 c 377 [a0] h = S377 c a0 h := by kernel_rfl
def W377 (c : CV) (l : List AV) (h : AH) : R := match l with | [a0] => S377 c a0 h | _ => none
theorem W377_ok : WOk Tryz.prog 377 W377 := by
  intro c l h r e
  unfold W377 at e
  split at e
  · exact ⟨P377, by rw [S377_eq]; exact e⟩
  · cases e
/- (*quietus/commit.Commit).give -/
def P378 : Pl := .z
def S378 (c : CV) (a0 : AV) (h : AH) : R :=
pNil a0 fun v0 =>
pFieldA v0 12 fun v1 =>
pLoad1 h v1 fun v2 =>
pNil a0 fun v3 =>
pFieldA v3 9 fun v4 =>
pLoad1 h v4 fun v5 =>
pLenS v5 fun v6 =>
pInt .eql v2 v6 fun v7 =>
pCond v7 (
pNil a0 fun v8 =>
pFieldA v8 0 fun v9 =>
pCall c (.fn 364 [] []) [v9, (.int .i64 (.ofNat 2)), (.int .i64 (.ofNat 0)), (.int .i64 (.negSucc 0))] h fun _ h11 =>
some ((.tup []), h11)) (
some ((.tup []), h))
theorem S378_eq (c : CV) (a0 : AV) (h : AH) : enterK Tryz.prog NN P378 c 378 [a0] h = S378 c a0 h := by kernel_rfl
def W378 (c : CV) (l : List AV) (h : AH) : R := match l with | [a0] => S378 c a0 h | _ => none
theorem W378_ok : WOk Tryz.prog 378 W378 := by
  intro c l h r e
  unfold W378 at e
  split at e
  · exact ⟨P378, by rw [S378_eq]; exact e⟩
  · cases e
/- (*quietus/commit.Commit).leave -/
def P379 : Pl := .z
def S379 (c : CV) (a0 : AV) (h : AH) : R :=
pNil a0 fun v0 =>
pFieldA v0 12 fun v1 =>
pLoad1 h v1 fun v2 =>
pNil a0 fun v3 =>
pFieldA v3 10 fun v4 =>
pLoad1 h v4 fun v5 =>
pLenS v5 fun v6 =>
pInt .eql v2 v6 fun v7 =>
pCond v7 (
pNil a0 fun v8 =>
pFieldA v8 0 fun v9 =>
pNil a0 fun v10 =>
pFieldA v10 18 fun v11 =>
pLoad1 h v11 fun v12 =>
pNil a0 fun v13 =>
pFieldA v13 20 fun v14 =>
pLoad1 h v14 fun v15 =>
pNil a0 fun v16 =>
pFieldA v16 19 fun v17 =>
pLoad1 h v17 fun v18 =>
pCall c (.fn 364 [] []) [v9, v12, v15, v18] h fun _ h20 =>
some ((.tup []), h20)) (
some ((.tup []), h))
theorem S379_eq (c : CV) (a0 : AV) (h : AH) : enterK Tryz.prog NN P379 c 379 [a0] h = S379 c a0 h := by kernel_rfl
def W379 (c : CV) (l : List AV) (h : AH) : R := match l with | [a0] => S379 c a0 h | _ => none
theorem W379_ok : WOk Tryz.prog 379 W379 := by
  intro c l h r e
  unfold W379 at e
  split at e
  · exact ⟨P379, by rw [S379_eq]; exact e⟩
  · cases e
/- (*quietus/commit.Commit).held -/
def P380 : Pl := .z
def S380 (c : CV) (a0 a1 : AV) (h : AH) : R :=
pBox h 60 a1 fun v0 h1 =>
pNil a0 fun v2 =>
pFieldA v2 0 fun v3 =>
pLoadN h1 v0 3 fun v4 =>
pCall c (.fn 366 [] []) [v3, v4] h1 fun v5 h6 =>
pUn .not v5 fun v7 =>
pCond v7 (
pFieldA v0 2 fun v8 =>
pLoad1 h6 v8 fun v9 =>
pCall c (.fn 381 [] []) [a0, (.int .i64 (.ofNat 5)), (.int .i64 (.ofNat 0)), v9] h6 fun _ h11 =>
some ((.tup []), h11)) (
some ((.tup []), h6))
theorem S380_eq (c : CV) (a0 a1 : AV) (h : AH) : enterK Tryz.prog NN P380 c 380 [a0, a1] h = S380 c a0 a1 h := by kernel_rfl
def W380 (c : CV) (l : List AV) (h : AH) : R := match l with | [a0, a1] => S380 c a0 a1 h | _ => none
theorem W380_ok : WOk Tryz.prog 380 W380 := by
  intro c l h r e
  unfold W380 at e
  split at e
  · exact ⟨P380, by rw [S380_eq]; exact e⟩
  · cases e
/- (*quietus/commit.Commit).stop -/
def P381 : Pl := .z
def S381 (c : CV) (a0 a1 a2 a3 : AV) (h : AH) : R :=
pNil a0 fun v0 =>
pFieldA v0 18 fun v1 =>
pStore h v1 a1 1 fun h2 =>
pNil a0 fun v3 =>
pFieldA v3 20 fun v4 =>
pStore h2 v4 a2 1 fun h5 =>
pNil a0 fun v6 =>
pFieldA v6 19 fun v7 =>
pStore h5 v7 a3 1 fun h8 =>
pNil a0 fun v9 =>
pFieldA v9 12 fun v10 =>
pStore h8 v10 (.int .i64 (.ofNat 0)) 1 fun h11 =>
pNil a0 fun v12 =>
pFieldA v12 11 fun v13 =>
pStore h11 v13 (.int .i64 (.ofNat 7)) 1 fun h14 =>
pCall c (.fn 379 [] []) [a0] h14 fun _ h16 =>
some ((.tup []), h16)
theorem S381_eq (c : CV) (a0 a1 a2 a3 : AV) (h : AH) : enterK Tryz.prog NN P381 c 381 [a0, a1, a2, a3] h = S381 c a0 a1 a2 a3 h := by kernel_rfl
def W381 (c : CV) (l : List AV) (h : AH) : R := match l with | [a0, a1, a2, a3] => S381 c a0 a1 a2 a3 h | _ => none
theorem W381_ok : WOk Tryz.prog 381 W381 := by
  intro c l h r e
  unfold W381 at e
  split at e
  · exact ⟨P381, by rw [S381_eq]; exact e⟩
  · cases e
/- (*quietus/commit.Commit).prove -/
def P382 : Pl := (.n none (.n none .z (.n none (.n (some [0]) .z .z) .z)) .z)
def S382 (c : CV) (a0 : AV) (h : AH) : R :=
pNil a0 fun v0 =>
pFieldA v0 11 fun v1 =>
pStore h v1 (.int .i64 (.ofNat 4)) 1 fun h2 =>
loopC (σ := AV × Unit) NN (fun i6 s3 h4 d5 =>
pNil s3.1 fun v7 =>
pFieldA v7 12 fun v8 =>
pLoad1 h4 v8 fun v9 =>
pNil s3.1 fun v10 =>
pFieldA v10 7 fun v11 =>
pLoad1 h4 v11 fun v12 =>
pLenS v12 fun v13 =>
pInt .lss v9 v13 fun v14 =>
pCond v14 (
pNil s3.1 fun v15 =>
pFieldA v15 9 fun v16 =>
pLoad1 h4 v16 fun v17 =>
pNil s3.1 fun v18 =>
pFieldA v18 7 fun v19 =>
pLoad1 h4 v19 fun v20 =>
pNil s3.1 fun v21 =>
pFieldA v21 12 fun v22 =>
pLoad1 h4 v22 fun v23 =>
pIdxS v20 v23 2 fun v24 =>
pFieldA v24 0 fun v25 =>
pLoad1 h4 v25 fun v26 =>
pCall c (.fn 383 [] []) [v17, v26] h4 fun v27 h28 =>
pExtract v27 0 fun v29 =>
pExtract v27 1 fun v30 =>
pUn .not v30 fun v31 =>
pCond v31 (
pLeave d5 h28 fun h32 =>
some ((.tup []), h32)) (
pNil s3.1 fun v33 =>
pFieldA v33 10 fun v34 =>
pLoad1 h28 v34 fun v35 =>
pIdxS v35 v29 3 fun v36 =>
pFieldA v36 0 fun v37 =>
pLoad1 h28 v37 fun v38 =>
pNil s3.1 fun v39 =>
pFieldA v39 7 fun v40 =>
pLoad1 h28 v40 fun v41 =>
pNil s3.1 fun v42 =>
pFieldA v42 12 fun v43 =>
pLoad1 h28 v43 fun v44 =>
pIdxS v41 v44 2 fun v45 =>
pFieldA v45 1 fun v46 =>
pLoad1 h28 v46 fun v47 =>
pInt .neq v38 v47 fun v48 =>
pCond v48 (
pCall c (.fn 381 [] []) [s3.1, (.int .i64 (.ofNat 5)), (.int .i64 (.ofNat 0)), (.int .i64 (.negSucc 0))] h28 fun _ h50 =>
pLeave d5 h50 fun h51 =>
some ((.tup []), h51)) (
pNil s3.1 fun v52 =>
pFieldA v52 12 fun v53 =>
pLoad1 h28 v53 fun v54 =>
pInt .add v54 (.int .i64 (.ofNat 1)) fun v55 =>
pNil s3.1 fun v56 =>
pFieldA v56 12 fun v57 =>
pStore h28 v57 v55 1 fun h58 =>
i6 (s3.1, ()) h58 d5))) (
pCall c (.fn 373 [] []) [s3.1] h4 fun _ h60 =>
pLeave d5 h60 fun h61 =>
some ((.tup []), h61))) (a0, ()) h2 []
theorem S382_eq (c : CV) (a0 : AV) (h : AH) : enterK Tryz.prog NN P382 c 382 [a0] h = S382 c a0 h := by kernel_rfl
def W382 (c : CV) (l : List AV) (h : AH) : R := match l with | [a0] => S382 c a0 h | _ => none
theorem W382_ok : WOk Tryz.prog 382 W382 := by
  intro c l h r e
  unfold W382 at e
  split at e
  · exact ⟨P382, by rw [S382_eq]; exact e⟩
  · cases e
/- slices.BinarySearch[[]int,int] -/
def P383 : Pl := (.n none .z (.n none .z (.n none .z (.n none (.n none (.n (some [8, 7, 6, 1, 0]) (.n none .z (.n (some [8, 7, 6, 1, 0]) .z .z)) .z) .z) (.n none (.r [[42, 35, 31, 7, 1, 0], [48, 42, 35, 31, 1], [50, 48, 42, 35, 31], [51, 42, 35, 31], [52, 35, 31]]) .z)))))
def S383 (c : CV) (a0 a1 : AV) (h : AH) : R :=
pLenS a0 fun v0 =>
loopC (σ := AV × AV × AV × AV × AV × Unit) NN (fun i4 s1 h2 d3 =>
pInt .lss s1.2.1 s1.1 fun v5 =>
pCond v5 (
joinC (α := AV × AV × AV × AV × AV × Unit → AH → List Nat → R) (fun s6 h7 d8 =>
i4 (s6.1, s6.2.1, s6.2.2.1, s6.2.2.2.1, s6.2.2.2.2.1, ()) h7 d8) fun j9 =>
pInt .add s1.2.1 s1.1 fun v10 =>
pConvI .u64 v10 fun v11 =>
pShift .shr v11 (.int .u64 (.ofNat 1)) fun v12 =>
pConvI .i64 v12 fun v13 =>
pIdxS s1.2.2.2.2.1 v13 1 fun v14 =>
pLoad1 h2 v14 fun v15 =>
pCall c (.fn 241 [] []) [v15, s1.2.2.2.1] h2 fun v16 h17 =>
pCond v16 (
pInt .add v13 (.int .i64 (.ofNat 1)) fun v18 =>
j9 (s1.1, v18, s1.2.2.1, s1.2.2.2.1, s1.2.2.2.2.1, ()) h17 d3) (
j9 (v13, s1.2.1, s1.2.2.1, s1.2.2.2.1, s1.2.2.2.2.1, ()) h17 d3)) (
pInt .lss s1.2.1 s1.2.2.1 fun v19 =>
joinC (α := AV × AV × AV × AV × AV × AV × Unit → AH → R) (fun s20 h21 =>
joinC (α := AV × AV × AV × AV × AV × Unit → AH → R) (fun s23 h24 =>
joinC (α := AV × AV × AV × AV × AV × Unit → AH → R) (fun s26 h27 =>
joinC (α := AV × AV × AV × AV × Unit → AH → R) (fun s29 h30 =>
joinC (α := AV × AV × AV × Unit → AH → R) (fun s32 h33 =>
pPick s32.2.1 s32.1 (.bool false) fun v35 =>
pLeave d3 h33 fun h36 =>
some ((.tup [s32.2.2.1, v35]), h36)) fun j34 =>
pWant s29.2.2.1 true (
pPick s29.2.1 (.bool true) s29.1 fun v37 =>
j34 (v37, s29.2.2.1, s29.2.2.2.1, ()) h30) (
j34 (.undef, s29.2.2.1, s29.2.2.2.1, ()) h30)) fun j31 =>
pWant s26.2.2.1 false (
pPick s26.2.1 s26.1 (.bool false) fun v38 =>
j31 (v38, s26.2.2.1, s26.2.2.2.1, s26.2.2.2.2.1, ()) h27) (
j31 (.undef, s26.2.2.1, s26.2.2.2.1, s26.2.2.2.2.1, ()) h27)) fun j28 =>
pWant s23.1 true (
pCall c (.fn 384 [] []) [s23.2.2.2.2.1] h24 fun v39 h40 =>
j28 (v39, s23.1, s23.2.1, s23.2.2.1, s23.2.2.2.1, ()) h40) (
j28 (.undef, s23.1, s23.2.1, s23.2.2.1, s23.2.2.2.1, ()) h24)) fun j25 =>
pWant s20.1 false (
pIdxS s20.2.2.2.2.2.1 s20.2.2.2.1 1 fun v41 =>
pLoad1 h21 v41 fun v42 =>
pCall c (.fn 384 [] []) [v42] h21 fun v43 h44 =>
j25 (v43, s20.1, s20.2.1, s20.2.2.1, s20.2.2.2.2.1, ()) h44) (
j25 (.undef, s20.1, s20.2.1, s20.2.2.1, s20.2.2.2.2.1, ()) h21)) fun j22 =>
pWant v19 true (
pIdxS s1.2.2.2.2.1 s1.2.1 1 fun v45 =>
pLoad1 h2 v45 fun v46 =>
pInt .eql v46 s1.2.2.2.1 fun v47 =>
j22 (v47, v19, s1.2.1, s1.2.1, s1.2.2.2.1, s1.2.2.2.2.1, ()) h2) (
j22 (.undef, v19, s1.2.1, s1.2.1, s1.2.2.2.1, s1.2.2.2.2.1, ()) h2))) (v0, (.int .i64 (.ofNat 0)), v0, a1, a0, ()) h []
theorem S383_eq (c : CV) (a0 a1 : AV) (h : AH) : enterK Tryz.prog NN P383 c 383 [a0, a1] h = S383 c a0 a1 h := by kernel_rfl
def W383 (c : CV) (l : List AV) (h : AH) : R := match l with | [a0, a1] => S383 c a0 a1 h | _ => none
theorem W383_ok : WOk Tryz.prog 383 W383 := by
  intro c l h r e
  unfold W383 at e
  split at e
  · exact ⟨P383, by rw [S383_eq]; exact e⟩
  · cases e
/- slices.isNaN[int] -/
def P384 : Pl := .z
def S384 (_ : CV) (a0 : AV) (h : AH) : R :=
pInt .neq a0 a0 fun v0 =>
some (v0, h)
theorem S384_eq (c : CV) (a0 : AV) (h : AH) : enterK Tryz.prog NN P384 c 384 [a0] h = S384 c a0 h := by kernel_rfl
def W384 (c : CV) (l : List AV) (h : AH) : R := match l with | [a0] => S384 c a0 h | _ => none
theorem W384_ok : WOk Tryz.prog 384 W384 := by
  intro c l h r e
  unfold W384 at e
  split at e
  · exact ⟨P384, by rw [S384_eq]; exact e⟩
  · cases e
/- (*quietus/levels.Levels).Cells: a round -/
def Q0 : Pl := (.n none .z .z)
def B0 (c : CV) (l : Nat) (v0 _ a1 : AV) (h : AH) : R :=
pBegin h l fun h100 =>
pCall c (.fn 163 [] []) [(.int .i64 (.ofNat 96))] h100 fun v101 h102 =>
pNil a1 fun v103 =>
pFieldA v103 0 fun v104 =>
pLoad1 h102 v104 fun v105 =>
pCall c (.fn 165 [] []) [v105] h102 fun v106 h107 =>
pCall c (.fn 164 [] []) [v101, v106] h107 fun _ h109 =>
pLoad1 h109 v0 fun v110 =>
pCall c (.fn 164 [] []) [v101, v110] h109 fun _ h112 =>
pCall c (.fn 165 [] []) [v101] h112 fun v113 h114 =>
pStore h114 v0 v113 1 fun h115 =>
pEndRound h115 l none
theorem B0_eq (c : CV) (l : Nat) (v0 a0 a1 : AV) (h : AH) : roundK Tryz.prog NN Q0 c 136 [1, 1, 0, 1, 0] [3] l [v0] [a0, a1] h = B0 c l v0 a0 a1 h := by kernel_rfl
def V0 (c : CV) (l : Nat) (x y : List AV) (h : AH) : R := match x, y with | [v0], [a0, a1] => B0 c l v0 a0 a1 h | _, _ => none
theorem V0_ok : VOk Tryz.prog 136 [1, 1, 0, 1, 0] [3] V0 := by
  intro c l x y h r e
  unfold V0 at e
  split at e
  · exact ⟨Q0, by rw [B0_eq]; exact e⟩
  · cases e
/- (*quietus/levels.Levels).Get: a round -/
def Q1 : Pl := (.n none .z .z)
def B1 (c : CV) (l : Nat) (v0 v1 v2 _ a1 : AV) (h : AH) : R :=
pBegin h l fun h100 =>
pNil a1 fun v101 =>
pFieldA v101 0 fun v102 =>
pLoad1 h100 v102 fun v103 =>
pLoad1 h100 v2 fun v104 =>
pCall c (.fn 231 [] []) [v103, v104] h100 fun v105 h106 =>
pExtract v105 0 fun v107 =>
pExtract v105 1 fun v108 =>
pCond v108 (
pStore h106 v1 v107 1 fun h109 =>
pStore h109 v0 (.bool true) 1 fun h110 =>
pEndRound h110 l (some .ret)) (
pEndRound h106 l none)
theorem B1_eq (c : CV) (l : Nat) (v0 v1 v2 a0 a1 : AV) (h : AH) : roundK Tryz.prog NN Q1 c 193 [1, 0, 1, 0] [5, 4, 3] l [v0, v1, v2] [a0, a1] h = B1 c l v0 v1 v2 a0 a1 h := by kernel_rfl
def V1 (c : CV) (l : Nat) (x y : List AV) (h : AH) : R := match x, y with | [v0, v1, v2], [a0, a1] => B1 c l v0 v1 v2 a0 a1 h | _, _ => none
theorem V1_ok : VOk Tryz.prog 193 [1, 0, 1, 0] [5, 4, 3] V1 := by
  intro c l x y h r e
  unfold V1 at e
  split at e
  · exact ⟨Q1, by rw [B1_eq]; exact e⟩
  · cases e
end
end Go.Proofs.YthkhbmdpmdkmoaaGreatDoor
