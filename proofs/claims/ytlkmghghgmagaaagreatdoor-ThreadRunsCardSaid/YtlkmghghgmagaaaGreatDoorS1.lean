/- Printed by a program of mine: the bodies of the program's functions aa terms of the primitives of the abstract executor, each shown equal by the kernel. -/
import Derived.Test.YtlkmghghgmagaaaGreatDoorProg
import Derived.Test.YtlkmghghgmagaaaGreatDoorAe1
import Derived.KernelRfl
namespace Go.Proofs.YtlkmghghgmagaaaGreatDoor
open Go Go.Ae
set_option maxRecDepth 100000
noncomputable section
/- slices.Compact[[]int,int] -/
def P129 : Pl := (.n none .z (.n none .z (.n none (.n none .z (.n none (.n (some [3, 0]) (.n none .z (.n none (.n none (.n none .z (.n none (.n none .z (.n none (.n none .z (.n none (.n (some [5, 4, 3, 0]) (.n none .z (.n none (.n (some [5, 4, 3, 0]) .z .z) .z)) .z) .z)) .z)) .z)) .z) .z)) .z) .z)) .z)))
def S129 (_ : CV) (a0 : AV) (h : AH) : R :=
pLenS a0 fun v0 =>
pInt .lss v0 (.int .i64 (.ofNat 2)) fun v1 =>
pCond v1 (
some (a0, h)) (
loopC (σ := AV × AV × Unit) NN (fun i5 s2 h3 d4 =>
pLenS s2.2.1 fun v6 =>
pInt .lss s2.1 v6 fun v7 =>
pCond v7 (
pIdxS s2.2.1 s2.1 1 fun v8 =>
pLoad1 h3 v8 fun v9 =>
pInt .sub s2.1 (.int .i64 (.ofNat 1)) fun v10 =>
pIdxS s2.2.1 v10 1 fun v11 =>
pLoad1 h3 v11 fun v12 =>
pInt .eql v9 v12 fun v13 =>
pCond v13 (
pSlice h3 3 1 s2.2.1 (some s2.1) none fun v14 =>
loopC (σ := AV × AV × AV × AV × Unit) NN (fun i18 s15 h16 d17 =>
pLenS s15.2.1 fun v19 =>
pInt .lss s15.1 v19 fun v20 =>
pCond v20 (
joinC (α := AV × AV × AV × AV × Unit → AH → List Nat → R) (fun s21 h22 d23 =>
pInt .add s21.1 (.int .i64 (.ofNat 1)) fun v25 =>
i18 (v25, s21.2.1, s21.2.2.1, s21.2.2.2.1, ()) h22 d23) fun j24 =>
pIdxS s15.2.1 s15.1 1 fun v26 =>
pLoad1 h16 v26 fun v27 =>
pInt .sub s15.1 (.int .i64 (.ofNat 1)) fun v28 =>
pIdxS s15.2.1 v28 1 fun v29 =>
pLoad1 h16 v29 fun v30 =>
pInt .neq v27 v30 fun v31 =>
pCond v31 (
pIdxS s15.2.1 s15.1 1 fun v32 =>
pLoad1 h16 v32 fun v33 =>
pIdxS s15.2.2.2.1 s15.2.2.1 1 fun v34 =>
pStore h16 v34 v33 1 fun h35 =>
pInt .add s15.2.2.1 (.int .i64 (.ofNat 1)) fun v36 =>
j24 (s15.1, s15.2.1, v36, s15.2.2.2.1, ()) h35 d17) (
j24 (s15.1, s15.2.1, s15.2.2.1, s15.2.2.2.1, ()) h16 d17)) (
pSlice h16 3 1 s15.2.2.2.1 (some s15.2.2.1) none fun _ =>
none /- op -/)) ((.int .i64 (.ofNat 1)), v14, s2.1, s2.2.1, ()) h3 d4) (
pInt .add s2.1 (.int .i64 (.ofNat 1)) fun v38 =>
i5 (v38, s2.2.1, ()) h3 d4)) (
pLeave d4 h3 fun h39 =>
some (s2.2.1, h39))) ((.int .i64 (.ofNat 1)), a0, ()) h [])
theorem S129_eq (c : CV) (a0 : AV) (h : AH) : enterK Tryz.prog NN P129 c 129 [a0] h = S129 c a0 h := by kernel_rfl
def W129 (c : CV) (l : List AV) (h : AH) : R := match l with | [a0] => S129 c a0 h | _ => none
theorem W129_ok : WOk Tryz.prog 129 W129 := by
  intro c l h r e
  unfold W129 at e
  split at e
  · exact ⟨P129, by rw [S129_eq]; exact e⟩
  · cases e
/- (*quietus/fetch.Fetch).End -/
def P130 : Pl := .z
def S130 (c : CV) (a0 : AV) (h : AH) : R :=
pNil a0 fun v0 =>
pFieldA v0 0 fun v1 =>
pCall c (.fn 90 [] []) [v1] h fun v2 h3 =>
some (v2, h3)
theorem S130_eq (c : CV) (a0 : AV) (h : AH) : enterK Tryz.prog NN P130 c 130 [a0] h = S130 c a0 h := by kernel_rfl
def W130 (c : CV) (l : List AV) (h : AH) : R := match l with | [a0] => S130 c a0 h | _ => none
theorem W130_ok : WOk Tryz.prog 130 W130 := by
  intro c l h r e
  unfold W130 at e
  split at e
  · exact ⟨P130, by rw [S130_eq]; exact e⟩
  · cases e
/- (*quietus/reads.Reads).Add -/
def P131 : Pl := (.n none .z (.n none (.n none (.r [[13, 10, 3, 0], [18, 15, 3, 0]]) .z) .z))
def S131 (c : CV) (a0 a1 : AV) (h : AH) : R :=
pBox h 168 a1 fun v0 h1 =>
pFieldA v0 0 fun v2 =>
pLoad1 h1 v2 fun v3 =>
pInt .lss v3 (.int .i64 (.ofNat 0)) fun v4 =>
joinC (α := AV × AV × AV × AV × Unit → AH → R) (fun s5 h6 =>
pPick s5.2.1 (.bool true) s5.1 fun v8 =>
joinC (α := AV × AV × AV × AV × Unit → AH → R) (fun s9 h10 =>
pPick s9.2.1 (.bool true) s9.1 fun v12 =>
pCond v12 (
some ((.int .i64 (.ofNat 1)), h10)) (
pFieldA s9.2.2.1 0 fun v13 =>
pLoad1 h10 v13 fun v14 =>
pCall c (.fn 164 [] []) [s9.2.2.2.1, v14] h10 fun v15 h16 =>
pExtract v15 0 fun v17 =>
pExtract v15 1 fun v18 =>
pCond v18 (
pFieldA s9.2.2.1 1 fun v19 =>
pLoad1 h16 v19 fun v20 =>
pInt .neq v17 v20 fun v21 =>
pCond v21 (
some ((.int .i64 (.ofNat 14)), h16)) (
some ((.int .i64 (.ofNat 0)), h16))) (
pNil s9.2.2.2.1 fun v22 =>
pFieldA v22 1 fun v23 =>
pLoad1 h16 v23 fun v24 =>
pLenS v24 fun v25 =>
pNil s9.2.2.2.1 fun v26 =>
pFieldA v26 0 fun v27 =>
pLoad1 h16 v27 fun v28 =>
pInt .eql v25 v28 fun v29 =>
pCond v29 (
some ((.int .i64 (.ofNat 5)), h16)) (
pNil s9.2.2.2.1 fun v30 =>
pFieldA v30 1 fun v31 =>
pLoad1 h16 v31 fun v32 =>
pLoadN h16 s9.2.2.1 2 fun v33 =>
pBuildS h16 168 [(.int .i64 (.ofNat 0)), (.int .u64 (.ofNat 0))] 1 [(0, 2, v33)] fun v34 h35 =>
pAppend h35 168 2 v32 v34 fun v36 h37 =>
pNil s9.2.2.2.1 fun v38 =>
pFieldA v38 1 fun v39 =>
pStore h37 v39 v36 1 fun h40 =>
some ((.int .i64 (.ofNat 0)), h40))))) fun j11 =>
pWant v8 false (
pFieldA s5.2.2.1 1 fun v41 =>
pLoad1 h6 v41 fun v42 =>
pInt .geq v42 (.int .u64 (.ofNat 4611686018427387904)) fun v43 =>
j11 (v43, v8, s5.2.2.1, s5.2.2.2.1, ()) h6) (
j11 (.undef, v8, s5.2.2.1, s5.2.2.2.1, ()) h6)) fun j7 =>
pWant v4 false (
pFieldA v0 0 fun v44 =>
pLoad1 h1 v44 fun v45 =>
pInt .geq v45 (.int .i64 (.ofNat 16)) fun v46 =>
j7 (v46, v4, v0, a0, ()) h1) (
j7 (.undef, v4, v0, a0, ()) h1)
theorem S131_eq (c : CV) (a0 a1 : AV) (h : AH) : enterK Tryz.prog NN P131 c 131 [a0, a1] h = S131 c a0 a1 h := by kernel_rfl
def W131 (c : CV) (l : List AV) (h : AH) : R := match l with | [a0, a1] => S131 c a0 a1 h | _ => none
theorem W131_ok : WOk Tryz.prog 131 W131 := by
  intro c l h r e
  unfold W131 at e
  split at e
  · exact ⟨P131, by rw [S131_eq]; exact e⟩
  · cases e
/- (*quietus/fetch.Fetch).Seen -/
def P132 : Pl := .z
def S132 (c : CV) (a0 : AV) (h : AH) : R :=
pBox h 168 (.agg [(.int .i64 (.ofNat 0)), (.int .u64 (.ofNat 0))]) fun v0 h1 =>
pCall c (.fn 130 [] []) [a0] h1 fun v2 h3 =>
pInt .neq v2 (.int .i64 (.ofNat 2)) fun v4 =>
pCond v4 (
pBuild [(.int .i64 (.ofNat 0)), (.int .u64 (.ofNat 0))] [] fun v5 =>
pStore h3 v0 v5 2 fun h6 =>
pLoadN h6 v0 2 fun v7 =>
some (v7, h6)) (
pNil a0 fun v8 =>
pFieldA v8 6 fun v9 =>
pLoad1 h3 v9 fun v10 =>
pNil a0 fun v11 =>
pFieldA v11 9 fun v12 =>
pFieldA v12 0 fun v13 =>
pLoad1 h3 v13 fun v14 =>
pBuild [(.int .i64 (.ofNat 0)), (.int .u64 (.ofNat 0))] [(0, 1, v10), (1, 1, v14)] fun v15 =>
pStore h3 v0 v15 2 fun h16 =>
pLoadN h16 v0 2 fun v17 =>
some (v17, h16))
theorem S132_eq (c : CV) (a0 : AV) (h : AH) : enterK Tryz.prog NN P132 c 132 [a0] h = S132 c a0 h := by kernel_rfl
def W132 (c : CV) (l : List AV) (h : AH) : R := match l with | [a0] => S132 c a0 h | _ => none
theorem W132_ok : WOk Tryz.prog 132 W132 := by
  intro c l h r e
  unfold W132 at e
  split at e
  · exact ⟨P132, by rw [S132_eq]; exact e⟩
  · cases e
/- (*quietus/view.View).Know -/
def P133 : Pl := .z
def S133 (c : CV) (a0 a1 a2 : AV) (h : AH) : R :=
pCall c (.fn 157 [] []) [a0, a1] h fun v0 h1 =>
pUn .not v0 fun v2 =>
pCond v2 (
some ((.int .i64 (.ofNat 2)), h1)) (
pNil a0 fun v3 =>
pFieldA v3 0 fun v4 =>
pLoad1 h1 v4 fun v5 =>
pIdxS v5 a1 2 fun v6 =>
pLoadN h1 v6 2 fun v7 =>
pBox h1 185 (.agg [(.int .u64 (.ofNat 0)), (.bool false)]) fun v8 h9 =>
pStore h9 v8 v7 2 fun h10 =>
pFieldA v8 1 fun v11 =>
pLoad1 h10 v11 fun v12 =>
pCond v12 (
pFieldA v8 0 fun v13 =>
pLoad1 h10 v13 fun v14 =>
pInt .neq v14 a2 fun v15 =>
pCond v15 (
some ((.int .i64 (.ofNat 14)), h10)) (
some ((.int .i64 (.ofNat 0)), h10))) (
pNil a0 fun v16 =>
pFieldA v16 0 fun v17 =>
pLoad1 h10 v17 fun v18 =>
pBuild [(.int .u64 (.ofNat 0)), (.bool false)] [(0, 1, a2), (1, 1, (.bool true))] fun v19 =>
pIdxS v18 a1 2 fun v20 =>
pStore h10 v20 v19 2 fun h21 =>
pNil a0 fun v22 =>
pFieldA v22 1 fun v23 =>
pLoad1 h21 v23 fun v24 =>
pBuildS h21 3 [(.int .i64 (.ofNat 0))] 1 [(0, 1, a1)] fun v25 h26 =>
pAppend h26 3 1 v24 v25 fun v27 h28 =>
pNil a0 fun v29 =>
pFieldA v29 1 fun v30 =>
pStore h28 v30 v27 1 fun h31 =>
some ((.int .i64 (.ofNat 0)), h31)))
theorem S133_eq (c : CV) (a0 a1 a2 : AV) (h : AH) : enterK Tryz.prog NN P133 c 133 [a0, a1, a2] h = S133 c a0 a1 a2 h := by kernel_rfl
def W133 (c : CV) (l : List AV) (h : AH) : R := match l with | [a0, a1, a2] => S133 c a0 a1 a2 h | _ => none
theorem W133_ok : WOk Tryz.prog 133 W133 := by
  intro c l h r e
  unfold W133 at e
  split at e
  · exact ⟨P133, by rw [S133_eq]; exact e⟩
  · cases e
/- (*quietus/fetch.Fetch).Word -/
def P134 : Pl := .z
def S134 (c : CV) (a0 : AV) (h : AH) : R :=
pCall c (.fn 130 [] []) [a0] h fun v0 h1 =>
pInt .neq v0 (.int .i64 (.ofNat 2)) fun v2 =>
pCond v2 (
some ((.int .u64 (.ofNat 0)), h1)) (
pNil a0 fun v3 =>
pFieldA v3 12 fun v4 =>
pLoad1 h1 v4 fun v5 =>
some (v5, h1))
theorem S134_eq (c : CV) (a0 : AV) (h : AH) : enterK Tryz.prog NN P134 c 134 [a0] h = S134 c a0 h := by kernel_rfl
def W134 (c : CV) (l : List AV) (h : AH) : R := match l with | [a0] => S134 c a0 h | _ => none
theorem W134_ok : WOk Tryz.prog 134 W134 := by
  intro c l h r e
  unfold W134 at e
  split at e
  · exact ⟨P134, by rw [S134_eq]; exact e⟩
  · cases e
/- (*quietus/extend.Extend).End -/
def P135 : Pl := .z
def S135 (c : CV) (a0 : AV) (h : AH) : R :=
pNil a0 fun v0 =>
pFieldA v0 0 fun v1 =>
pCall c (.fn 90 [] []) [v1] h fun v2 h3 =>
some (v2, h3)
theorem S135_eq (c : CV) (a0 : AV) (h : AH) : enterK Tryz.prog NN P135 c 135 [a0] h = S135 c a0 h := by kernel_rfl
def W135 (c : CV) (l : List AV) (h : AH) : R := match l with | [a0] => S135 c a0 h | _ => none
theorem W135_ok : WOk Tryz.prog 135 W135 := by
  intro c l h r e
  unfold W135 at e
  split at e
  · exact ⟨P135, by rw [S135_eq]; exact e⟩
  · cases e
/- (*quietus/patience.Patience).Err -/
def P136 : Pl := .z
def S136 (_ : CV) (a0 : AV) (h : AH) : R :=
pNil a0 fun v0 =>
pFieldA v0 4 fun v1 =>
pLoad1 h v1 fun v2 =>
some (v2, h)
theorem S136_eq (c : CV) (a0 : AV) (h : AH) : enterK Tryz.prog NN P136 c 136 [a0] h = S136 c a0 h := by kernel_rfl
def W136 (c : CV) (l : List AV) (h : AH) : R := match l with | [a0] => S136 c a0 h | _ => none
theorem W136_ok : WOk Tryz.prog 136 W136 := by
  intro c l h r e
  unfold W136 at e
  split at e
  · exact ⟨P136, by rw [S136_eq]; exact e⟩
  · cases e
/- slices.Clone[[]any,any] -/
def P137 : Pl := .z
def S137 (_ : CV) (a0 : AV) (h : AH) : R :=
pEq .slc false a0 .nils fun v0 =>
pCond v0 (
some (.nils, h)) (
pBuildS h 20 [.nili] 0 [] fun v1 h2 =>
pAppend h2 20 1 v1 a0 fun v3 h4 =>
some (v3, h4))
theorem S137_eq (c : CV) (a0 : AV) (h : AH) : enterK Tryz.prog NN P137 c 137 [a0] h = S137 c a0 h := by kernel_rfl
def W137 (c : CV) (l : List AV) (h : AH) : R := match l with | [a0] => S137 c a0 h | _ => none
theorem W137_ok : WOk Tryz.prog 137 W137 := by
  intro c l h r e
  unfold W137 at e
  split at e
  · exact ⟨P137, by rw [S137_eq]; exact e⟩
  · cases e
/- strconv.FormatUint -/
def P138 : Pl := .z
def S138 (c : CV) (a0 a1 : AV) (h : AH) : R :=
pCall c (.fn 165 [] []) [a0, a1] h fun v0 h1 =>
some (v0, h1)
theorem S138_eq (c : CV) (a0 a1 : AV) (h : AH) : enterK Tryz.prog NN P138 c 138 [a0, a1] h = S138 c a0 a1 h := by kernel_rfl
def W138 (c : CV) (l : List AV) (h : AH) : R := match l with | [a0, a1] => S138 c a0 a1 h | _ => none
theorem W138_ok : WOk Tryz.prog 138 W138 := by
  intro c l h r e
  unfold W138 at e
  split at e
  · exact ⟨P138, by rw [S138_eq]; exact e⟩
  · cases e
/- (*strings.Builder).Grow -/
def P139 : Pl := (.n none .z (.n (some [1, 0]) .z (.n none (.r [[21, 1, 0]]) .z)))
def S139 (c : CV) (a0 a1 : AV) (h : AH) : R :=
pCall c (.fn 166 [] []) [a0] h fun _ h1 =>
joinC (α := AV × AV × Unit → AH → List Nat → R) (fun s2 h3 d4 =>
joinC (α := AV × AV × AV × Unit → AH → R) (fun s6 h7 =>
pCond s6.1 (
pCall c (.fn 167 [] []) [s6.2.2.1, s6.2.1] h7 fun _ h10 =>
pLeave d4 h10 fun h11 =>
some ((.tup []), h11)) (
pLeave d4 h7 fun h12 =>
some ((.tup []), h12))) fun _ =>
pNil s2.2.1 fun v13 =>
pFieldA v13 1 fun v14 =>
pLoad1 h3 v14 fun _ =>
none /- op -/) fun j5 =>
pInt .lss a1 (.int .i64 (.ofNat 0)) fun v16 =>
pCond v16 (
none /- op -/) (
j5 (a1, a0, ()) h1 [])
theorem S139_eq (c : CV) (a0 a1 : AV) (h : AH) : enterK Tryz.prog NN P139 c 139 [a0, a1] h = S139 c a0 a1 h := by kernel_rfl
def W139 (c : CV) (l : List AV) (h : AH) : R := match l with | [a0, a1] => S139 c a0 a1 h | _ => none
theorem W139_ok : WOk Tryz.prog 139 W139 := by
  intro c l h r e
  unfold W139 at e
  split at e
  · exact ⟨P139, by rw [S139_eq]; exact e⟩
  · cases e
/- (*strings.Builder).WriteString -/
def P140 : Pl := .z
def S140 (c : CV) (a0 a1 : AV) (h : AH) : R :=
pCall c (.fn 166 [] []) [a0] h fun _ h1 =>
pNil a0 fun v2 =>
pFieldA v2 1 fun v3 =>
pLoad1 h1 v3 fun v4 =>
pAppend h1 5 1 v4 a1 fun v5 h6 =>
pNil a0 fun v7 =>
pFieldA v7 1 fun v8 =>
pStore h6 v8 v5 1 fun h9 =>
pLenStr a1 fun v10 =>
some ((.tup [v10, .nili]), h9)
theorem S140_eq (c : CV) (a0 a1 : AV) (h : AH) : enterK Tryz.prog NN P140 c 140 [a0, a1] h = S140 c a0 a1 h := by kernel_rfl
def W140 (c : CV) (l : List AV) (h : AH) : R := match l with | [a0, a1] => S140 c a0 a1 h | _ => none
theorem W140_ok : WOk Tryz.prog 140 W140 := by
  intro c l h r e
  unfold W140 at e
  split at e
  · exact ⟨P140, by rw [S140_eq]; exact e⟩
  · cases e
/- (*strings.Builder).String -/
def P141 : Pl := (.n none .z (.n none (.r [[2]]) .z))
def S141 (_ : CV) (a0 : AV) (h : AH) : R :=
joinC (α := AV × Unit → AH → R) (fun s0 h1 =>
some (s0.1, h1)) fun _ =>
pNil a0 fun v3 =>
pFieldA v3 1 fun v4 =>
pLoad1 h v4 fun _ =>
none /- op -/
theorem S141_eq (c : CV) (a0 : AV) (h : AH) : enterK Tryz.prog NN P141 c 141 [a0] h = S141 c a0 h := by kernel_rfl
def W141 (c : CV) (l : List AV) (h : AH) : R := match l with | [a0] => S141 c a0 h | _ => none
theorem W141_ok : WOk Tryz.prog 141 W141 := by
  intro c l h r e
  unfold W141 at e
  split at e
  · exact ⟨P141, by rw [S141_eq]; exact e⟩
  · cases e
/- quietus/lock.owns -/
def P142 : Pl := (.n none .z (.n none (.r [[7, 5]]) .z))
def S142 (_ : CV) (a0 : AV) (h : AH) : R :=
pInt .geq a0 (.int .i64 (.ofNat 0)) fun v0 =>
joinC (α := AV × AV × Unit → AH → R) (fun s1 h2 =>
pPick s1.2.1 s1.1 (.bool false) fun v4 =>
some (v4, h2)) fun j3 =>
pWant v0 true (
pInt .lss a0 (.int .i64 (.ofNat 4)) fun v5 =>
j3 (v5, v0, ()) h) (
j3 (.undef, v0, ()) h)
theorem S142_eq (c : CV) (a0 : AV) (h : AH) : enterK Tryz.prog NN P142 c 142 [a0] h = S142 c a0 h := by kernel_rfl
def W142 (c : CV) (l : List AV) (h : AH) : R := match l with | [a0] => S142 c a0 h | _ => none
theorem W142_ok : WOk Tryz.prog 142 W142 := by
  intro c l h r e
  unfold W142 at e
  split at e
  · exact ⟨P142, by rw [S142_eq]; exact e⟩
  · cases e
/- quietus/levels.New -/
def P143 : Pl := .z
def S143 (c : CV) (a0 : AV) (h : AH) : R :=
pMM false [a0, (.int .i64 (.ofNat 96))] fun v0 =>
pMM true [(.int .i64 (.ofNat 0)), v0] fun v1 =>
pCall c (.fn 168 [] []) [] h fun v2 h3 =>
pBuildS h3 205 [.nilp] 1 [(0, 1, v2)] fun v4 h5 =>
pBuild [(.int .i64 (.ofNat 0)), .nils] [(0, 1, v1), (1, 1, v4)] fun v6 =>
pBox h5 207 v6 fun v7 h8 =>
some (v7, h8)
theorem S143_eq (c : CV) (a0 : AV) (h : AH) : enterK Tryz.prog NN P143 c 143 [a0] h = S143 c a0 h := by kernel_rfl
def W143 (c : CV) (l : List AV) (h : AH) : R := match l with | [a0] => S143 c a0 h | _ => none
theorem W143_ok : WOk Tryz.prog 143 W143 := by
  intro c l h r e
  unfold W143 at e
  split at e
  · exact ⟨P143, by rw [S143_eq]; exact e⟩
  · cases e
/- quietus/check.wrong -/
def P144 : Pl := (.n none .z (.n none (.n none (.n none .z (.n none .z (.n none (.r [[11, 5, 3, 1]]) (.n none .z (.n none (.r [[33, 29, 5, 1]]) (.n none .z (.n none (.r [[42, 39]]) .z))))))) .z) .z))
def S144 (c : CV) (a0 a1 a2 : AV) (h : AH) : R :=
pBox h 33 a0 fun v0 h1 =>
pBox h1 30 a2 fun v2 h3 =>
pLoadN h3 v2 5 fun v4 =>
pCall c (.fn 169 [] []) [v4] h3 fun v5 h6 =>
pUn .not v5 fun v7 =>
pCond v7 (
some ((.int .i64 (.ofNat 8)), h6)) (
joinC (α := AV × AV × AV × AV × Unit → AH → R) (fun s8 h9 =>
pCond s8.1 (
some ((.int .i64 (.ofNat 12)), h9)) (
pFieldA s8.2.1 0 fun v11 =>
pLoad1 h9 v11 fun v12 =>
pInt .eql v12 (.int .i64 (.ofNat 16)) fun v13 =>
joinC (α := AV × AV × AV × AV × Unit → AH → R) (fun s14 h15 =>
pPick s14.2.1 s14.1 (.bool false) fun v17 =>
pCond v17 (
some ((.int .i64 (.ofNat 12)), h15)) (
pFieldA s14.2.2.1 0 fun v18 =>
pLoad1 h15 v18 fun v19 =>
pCall c (.fn 171 [] []) [v19] h15 fun v20 h21 =>
joinC (α := AV × AV × Unit → AH → R) (fun s22 h23 =>
pPick s22.2.1 s22.1 (.bool false) fun v25 =>
pCond v25 (
some ((.int .i64 (.ofNat 9)), h23)) (
some ((.int .i64 (.ofNat 0)), h23))) fun j24 =>
pWant v20 true (
pLenS s14.2.2.2.1 fun v26 =>
pInt .geq v26 (.int .i64 (.ofNat 5)) fun v27 =>
j24 (v27, v20, ()) h21) (
j24 (.undef, v20, ()) h21))) fun j16 =>
pWant v13 true (
pLoadN h9 s8.2.2.1 1 fun v28 =>
pCall c (.fn 170 [] []) [s8.2.2.2.1, v28] h9 fun v29 h30 =>
pInt .neq v29 (.int .i64 (.ofNat 14)) fun v31 =>
j16 (v31, v13, s8.2.1, s8.2.2.2.1, ()) h30) (
j16 (.undef, v13, s8.2.1, s8.2.2.2.1, ()) h9))) fun j10 =>
pFieldA v2 0 fun v32 =>
pLoad1 h6 v32 fun v33 =>
pCall c (.fn 149 [] []) [v33] h6 fun v34 h35 =>
pInt .gtr v34 (.int .i64 (.ofNat 0)) fun v36 =>
pWant v36 true (
pWant v36 true (
pLoadN h35 v0 1 fun v37 =>
pWant v36 true (
pCall c (.fn 170 [] []) [a1, v37] h35 fun v38 h39 =>
pWant v36 true (
pFieldA v2 0 fun v40 =>
pWant v36 true (
pLoad1 h39 v40 fun v41 =>
pWant v36 true (
pCall c (.fn 149 [] []) [v41] h39 fun v42 h43 =>
pWant v36 true (
pInt .neq v38 v42 fun v44 =>
pPick v36 v44 (.bool false) fun v45 =>
pChk v40 none v41 h35 h39 h6.nx <|
j10 (v45, v2, v0, a1, ()) h43) (
pPick v36 .undef (.bool false) fun v46 =>
pChk v40 none v41 h35 h39 h6.nx <|
j10 (v46, v2, v0, a1, ()) h43)) (
pWant v36 true (
pInt .neq v38 .undef fun v47 =>
pPick v36 v47 (.bool false) fun v48 =>
pChk v40 none v41 h35 h39 h6.nx <|
j10 (v48, v2, v0, a1, ()) h39) (
pPick v36 .undef (.bool false) fun v49 =>
pChk v40 none v41 h35 h39 h6.nx <|
j10 (v49, v2, v0, a1, ()) h39))) (
pWant v36 true (
pCall c (.fn 149 [] []) [.undef] h39 fun v50 h51 =>
pWant v36 true (
pInt .neq v38 v50 fun v52 =>
pPick v36 v52 (.bool false) fun v53 =>
j10 (v53, v2, v0, a1, ()) h51) (
pPick v36 .undef (.bool false) fun v54 =>
j10 (v54, v2, v0, a1, ()) h51)) (
pWant v36 true (
pInt .neq v38 .undef fun v55 =>
pPick v36 v55 (.bool false) fun v56 =>
j10 (v56, v2, v0, a1, ()) h39) (
pPick v36 .undef (.bool false) fun v57 =>
j10 (v57, v2, v0, a1, ()) h39)))) (
pWant v36 true (
pLoad1 h39 .undef fun v58 =>
pWant v36 true (
pCall c (.fn 149 [] []) [v58] h39 fun v59 h60 =>
pWant v36 true (
pInt .neq v38 v59 fun v61 =>
pPick v36 v61 (.bool false) fun v62 =>
pChk .undef none v58 h35 h39 h6.nx <|
j10 (v62, v2, v0, a1, ()) h60) (
pPick v36 .undef (.bool false) fun v63 =>
pChk .undef none v58 h35 h39 h6.nx <|
j10 (v63, v2, v0, a1, ()) h60)) (
pWant v36 true (
pInt .neq v38 .undef fun v64 =>
pPick v36 v64 (.bool false) fun v65 =>
pChk .undef none v58 h35 h39 h6.nx <|
j10 (v65, v2, v0, a1, ()) h39) (
pPick v36 .undef (.bool false) fun v66 =>
pChk .undef none v58 h35 h39 h6.nx <|
j10 (v66, v2, v0, a1, ()) h39))) (
pWant v36 true (
pCall c (.fn 149 [] []) [.undef] h39 fun v67 h68 =>
pWant v36 true (
pInt .neq v38 v67 fun v69 =>
pPick v36 v69 (.bool false) fun v70 =>
j10 (v70, v2, v0, a1, ()) h68) (
pPick v36 .undef (.bool false) fun v71 =>
j10 (v71, v2, v0, a1, ()) h68)) (
pWant v36 true (
pInt .neq v38 .undef fun v72 =>
pPick v36 v72 (.bool false) fun v73 =>
j10 (v73, v2, v0, a1, ()) h39) (
pPick v36 .undef (.bool false) fun v74 =>
j10 (v74, v2, v0, a1, ()) h39))))) (
pWant v36 true (
pFieldA v2 0 fun v75 =>
pWant v36 true (
pLoad1 h35 v75 fun v76 =>
pWant v36 true (
pCall c (.fn 149 [] []) [v76] h35 fun v77 h78 =>
pWant v36 true (
pInt .neq .undef v77 fun v79 =>
pPick v36 v79 (.bool false) fun v80 =>
j10 (v80, v2, v0, a1, ()) h78) (
pPick v36 .undef (.bool false) fun v81 =>
j10 (v81, v2, v0, a1, ()) h78)) (
pWant v36 true (
pInt .neq .undef .undef fun v82 =>
pPick v36 v82 (.bool false) fun v83 =>
j10 (v83, v2, v0, a1, ()) h35) (
pPick v36 .undef (.bool false) fun v84 =>
j10 (v84, v2, v0, a1, ()) h35))) (
pWant v36 true (
pCall c (.fn 149 [] []) [.undef] h35 fun v85 h86 =>
pWant v36 true (
pInt .neq .undef v85 fun v87 =>
pPick v36 v87 (.bool false) fun v88 =>
j10 (v88, v2, v0, a1, ()) h86) (
pPick v36 .undef (.bool false) fun v89 =>
j10 (v89, v2, v0, a1, ()) h86)) (
pWant v36 true (
pInt .neq .undef .undef fun v90 =>
pPick v36 v90 (.bool false) fun v91 =>
j10 (v91, v2, v0, a1, ()) h35) (
pPick v36 .undef (.bool false) fun v92 =>
j10 (v92, v2, v0, a1, ()) h35)))) (
pWant v36 true (
pLoad1 h35 .undef fun v93 =>
pWant v36 true (
pCall c (.fn 149 [] []) [v93] h35 fun v94 h95 =>
pWant v36 true (
pInt .neq .undef v94 fun v96 =>
pPick v36 v96 (.bool false) fun v97 =>
j10 (v97, v2, v0, a1, ()) h95) (
pPick v36 .undef (.bool false) fun v98 =>
j10 (v98, v2, v0, a1, ()) h95)) (
pWant v36 true (
pInt .neq .undef .undef fun v99 =>
pPick v36 v99 (.bool false) fun v100 =>
j10 (v100, v2, v0, a1, ()) h35) (
pPick v36 .undef (.bool false) fun v101 =>
j10 (v101, v2, v0, a1, ()) h35))) (
pWant v36 true (
pCall c (.fn 149 [] []) [.undef] h35 fun v102 h103 =>
pWant v36 true (
pInt .neq .undef v102 fun v104 =>
pPick v36 v104 (.bool false) fun v105 =>
j10 (v105, v2, v0, a1, ()) h103) (
pPick v36 .undef (.bool false) fun v106 =>
j10 (v106, v2, v0, a1, ()) h103)) (
pWant v36 true (
pInt .neq .undef .undef fun v107 =>
pPick v36 v107 (.bool false) fun v108 =>
j10 (v108, v2, v0, a1, ()) h35) (
pPick v36 .undef (.bool false) fun v109 =>
j10 (v109, v2, v0, a1, ()) h35)))))) (
pWant v36 true (
pCall c (.fn 170 [] []) [a1, .undef] h35 fun v110 h111 =>
pWant v36 true (
pFieldA v2 0 fun v112 =>
pWant v36 true (
pLoad1 h111 v112 fun v113 =>
pWant v36 true (
pCall c (.fn 149 [] []) [v113] h111 fun v114 h115 =>
pWant v36 true (
pInt .neq v110 v114 fun v116 =>
pPick v36 v116 (.bool false) fun v117 =>
pChk v112 none v113 h35 h111 h6.nx <|
j10 (v117, v2, v0, a1, ()) h115) (
pPick v36 .undef (.bool false) fun v118 =>
pChk v112 none v113 h35 h111 h6.nx <|
j10 (v118, v2, v0, a1, ()) h115)) (
pWant v36 true (
pInt .neq v110 .undef fun v119 =>
pPick v36 v119 (.bool false) fun v120 =>
pChk v112 none v113 h35 h111 h6.nx <|
j10 (v120, v2, v0, a1, ()) h111) (
pPick v36 .undef (.bool false) fun v121 =>
pChk v112 none v113 h35 h111 h6.nx <|
j10 (v121, v2, v0, a1, ()) h111))) (
pWant v36 true (
pCall c (.fn 149 [] []) [.undef] h111 fun v122 h123 =>
pWant v36 true (
pInt .neq v110 v122 fun v124 =>
pPick v36 v124 (.bool false) fun v125 =>
j10 (v125, v2, v0, a1, ()) h123) (
pPick v36 .undef (.bool false) fun v126 =>
j10 (v126, v2, v0, a1, ()) h123)) (
pWant v36 true (
pInt .neq v110 .undef fun v127 =>
pPick v36 v127 (.bool false) fun v128 =>
j10 (v128, v2, v0, a1, ()) h111) (
pPick v36 .undef (.bool false) fun v129 =>
j10 (v129, v2, v0, a1, ()) h111)))) (
pWant v36 true (
pLoad1 h111 .undef fun v130 =>
pWant v36 true (
pCall c (.fn 149 [] []) [v130] h111 fun v131 h132 =>
pWant v36 true (
pInt .neq v110 v131 fun v133 =>
pPick v36 v133 (.bool false) fun v134 =>
pChk .undef none v130 h35 h111 h6.nx <|
j10 (v134, v2, v0, a1, ()) h132) (
pPick v36 .undef (.bool false) fun v135 =>
pChk .undef none v130 h35 h111 h6.nx <|
j10 (v135, v2, v0, a1, ()) h132)) (
pWant v36 true (
pInt .neq v110 .undef fun v136 =>
pPick v36 v136 (.bool false) fun v137 =>
pChk .undef none v130 h35 h111 h6.nx <|
j10 (v137, v2, v0, a1, ()) h111) (
pPick v36 .undef (.bool false) fun v138 =>
pChk .undef none v130 h35 h111 h6.nx <|
j10 (v138, v2, v0, a1, ()) h111))) (
pWant v36 true (
pCall c (.fn 149 [] []) [.undef] h111 fun v139 h140 =>
pWant v36 true (
pInt .neq v110 v139 fun v141 =>
pPick v36 v141 (.bool false) fun v142 =>
j10 (v142, v2, v0, a1, ()) h140) (
pPick v36 .undef (.bool false) fun v143 =>
j10 (v143, v2, v0, a1, ()) h140)) (
pWant v36 true (
pInt .neq v110 .undef fun v144 =>
pPick v36 v144 (.bool false) fun v145 =>
j10 (v145, v2, v0, a1, ()) h111) (
pPick v36 .undef (.bool false) fun v146 =>
j10 (v146, v2, v0, a1, ()) h111))))) (
pWant v36 true (
pFieldA v2 0 fun v147 =>
pWant v36 true (
pLoad1 h35 v147 fun v148 =>
pWant v36 true (
pCall c (.fn 149 [] []) [v148] h35 fun v149 h150 =>
pWant v36 true (
pInt .neq .undef v149 fun v151 =>
pPick v36 v151 (.bool false) fun v152 =>
j10 (v152, v2, v0, a1, ()) h150) (
pPick v36 .undef (.bool false) fun v153 =>
j10 (v153, v2, v0, a1, ()) h150)) (
pWant v36 true (
pInt .neq .undef .undef fun v154 =>
pPick v36 v154 (.bool false) fun v155 =>
j10 (v155, v2, v0, a1, ()) h35) (
pPick v36 .undef (.bool false) fun v156 =>
j10 (v156, v2, v0, a1, ()) h35))) (
pWant v36 true (
pCall c (.fn 149 [] []) [.undef] h35 fun v157 h158 =>
pWant v36 true (
pInt .neq .undef v157 fun v159 =>
pPick v36 v159 (.bool false) fun v160 =>
j10 (v160, v2, v0, a1, ()) h158) (
pPick v36 .undef (.bool false) fun v161 =>
j10 (v161, v2, v0, a1, ()) h158)) (
pWant v36 true (
pInt .neq .undef .undef fun v162 =>
pPick v36 v162 (.bool false) fun v163 =>
j10 (v163, v2, v0, a1, ()) h35) (
pPick v36 .undef (.bool false) fun v164 =>
j10 (v164, v2, v0, a1, ()) h35)))) (
pWant v36 true (
pLoad1 h35 .undef fun v165 =>
pWant v36 true (
pCall c (.fn 149 [] []) [v165] h35 fun v166 h167 =>
pWant v36 true (
pInt .neq .undef v166 fun v168 =>
pPick v36 v168 (.bool false) fun v169 =>
j10 (v169, v2, v0, a1, ()) h167) (
pPick v36 .undef (.bool false) fun v170 =>
j10 (v170, v2, v0, a1, ()) h167)) (
pWant v36 true (
pInt .neq .undef .undef fun v171 =>
pPick v36 v171 (.bool false) fun v172 =>
j10 (v172, v2, v0, a1, ()) h35) (
pPick v36 .undef (.bool false) fun v173 =>
j10 (v173, v2, v0, a1, ()) h35))) (
pWant v36 true (
pCall c (.fn 149 [] []) [.undef] h35 fun v174 h175 =>
pWant v36 true (
pInt .neq .undef v174 fun v176 =>
pPick v36 v176 (.bool false) fun v177 =>
j10 (v177, v2, v0, a1, ()) h175) (
pPick v36 .undef (.bool false) fun v178 =>
j10 (v178, v2, v0, a1, ()) h175)) (
pWant v36 true (
pInt .neq .undef .undef fun v179 =>
pPick v36 v179 (.bool false) fun v180 =>
j10 (v180, v2, v0, a1, ()) h35) (
pPick v36 .undef (.bool false) fun v181 =>
j10 (v181, v2, v0, a1, ()) h35))))))) (
pWant v36 true (
pLoadN h35 v0 1 fun v182 =>
pWant v36 true (
pCall c (.fn 170 [] []) [.undef, v182] h35 fun v183 h184 =>
pWant v36 true (
pFieldA v2 0 fun v185 =>
pWant v36 true (
pLoad1 h184 v185 fun v186 =>
pWant v36 true (
pCall c (.fn 149 [] []) [v186] h184 fun v187 h188 =>
pWant v36 true (
pInt .neq v183 v187 fun v189 =>
pPick v36 v189 (.bool false) fun v190 =>
pChk v185 none v186 h35 h184 h6.nx <|
j10 (v190, v2, v0, a1, ()) h188) (
pPick v36 .undef (.bool false) fun v191 =>
pChk v185 none v186 h35 h184 h6.nx <|
j10 (v191, v2, v0, a1, ()) h188)) (
pWant v36 true (
pInt .neq v183 .undef fun v192 =>
pPick v36 v192 (.bool false) fun v193 =>
pChk v185 none v186 h35 h184 h6.nx <|
j10 (v193, v2, v0, a1, ()) h184) (
pPick v36 .undef (.bool false) fun v194 =>
pChk v185 none v186 h35 h184 h6.nx <|
j10 (v194, v2, v0, a1, ()) h184))) (
pWant v36 true (
pCall c (.fn 149 [] []) [.undef] h184 fun v195 h196 =>
pWant v36 true (
pInt .neq v183 v195 fun v197 =>
pPick v36 v197 (.bool false) fun v198 =>
j10 (v198, v2, v0, a1, ()) h196) (
pPick v36 .undef (.bool false) fun v199 =>
j10 (v199, v2, v0, a1, ()) h196)) (
pWant v36 true (
pInt .neq v183 .undef fun v200 =>
pPick v36 v200 (.bool false) fun v201 =>
j10 (v201, v2, v0, a1, ()) h184) (
pPick v36 .undef (.bool false) fun v202 =>
j10 (v202, v2, v0, a1, ()) h184)))) (
pWant v36 true (
pLoad1 h184 .undef fun v203 =>
pWant v36 true (
pCall c (.fn 149 [] []) [v203] h184 fun v204 h205 =>
pWant v36 true (
pInt .neq v183 v204 fun v206 =>
pPick v36 v206 (.bool false) fun v207 =>
pChk .undef none v203 h35 h184 h6.nx <|
j10 (v207, v2, v0, a1, ()) h205) (
pPick v36 .undef (.bool false) fun v208 =>
pChk .undef none v203 h35 h184 h6.nx <|
j10 (v208, v2, v0, a1, ()) h205)) (
pWant v36 true (
pInt .neq v183 .undef fun v209 =>
pPick v36 v209 (.bool false) fun v210 =>
pChk .undef none v203 h35 h184 h6.nx <|
j10 (v210, v2, v0, a1, ()) h184) (
pPick v36 .undef (.bool false) fun v211 =>
pChk .undef none v203 h35 h184 h6.nx <|
j10 (v211, v2, v0, a1, ()) h184))) (
pWant v36 true (
pCall c (.fn 149 [] []) [.undef] h184 fun v212 h213 =>
pWant v36 true (
pInt .neq v183 v212 fun v214 =>
pPick v36 v214 (.bool false) fun v215 =>
j10 (v215, v2, v0, a1, ()) h213) (
pPick v36 .undef (.bool false) fun v216 =>
j10 (v216, v2, v0, a1, ()) h213)) (
pWant v36 true (
pInt .neq v183 .undef fun v217 =>
pPick v36 v217 (.bool false) fun v218 =>
j10 (v218, v2, v0, a1, ()) h184) (
pPick v36 .undef (.bool false) fun v219 =>
j10 (v219, v2, v0, a1, ()) h184))))) (
pWant v36 true (
pFieldA v2 0 fun v220 =>
pWant v36 true (
pLoad1 h35 v220 fun v221 =>
pWant v36 true (
pCall c (.fn 149 [] []) [v221] h35 fun v222 h223 =>
pWant v36 true (
pInt .neq .undef v222 fun v224 =>
pPick v36 v224 (.bool false) fun v225 =>
j10 (v225, v2, v0, a1, ()) h223) (
pPick v36 .undef (.bool false) fun v226 =>
j10 (v226, v2, v0, a1, ()) h223)) (
pWant v36 true (
pInt .neq .undef .undef fun v227 =>
pPick v36 v227 (.bool false) fun v228 =>
j10 (v228, v2, v0, a1, ()) h35) (
pPick v36 .undef (.bool false) fun v229 =>
j10 (v229, v2, v0, a1, ()) h35))) (
pWant v36 true (
pCall c (.fn 149 [] []) [.undef] h35 fun v230 h231 =>
pWant v36 true (
pInt .neq .undef v230 fun v232 =>
pPick v36 v232 (.bool false) fun v233 =>
j10 (v233, v2, v0, a1, ()) h231) (
pPick v36 .undef (.bool false) fun v234 =>
j10 (v234, v2, v0, a1, ()) h231)) (
pWant v36 true (
pInt .neq .undef .undef fun v235 =>
pPick v36 v235 (.bool false) fun v236 =>
j10 (v236, v2, v0, a1, ()) h35) (
pPick v36 .undef (.bool false) fun v237 =>
j10 (v237, v2, v0, a1, ()) h35)))) (
pWant v36 true (
pLoad1 h35 .undef fun v238 =>
pWant v36 true (
pCall c (.fn 149 [] []) [v238] h35 fun v239 h240 =>
pWant v36 true (
pInt .neq .undef v239 fun v241 =>
pPick v36 v241 (.bool false) fun v242 =>
j10 (v242, v2, v0, a1, ()) h240) (
pPick v36 .undef (.bool false) fun v243 =>
j10 (v243, v2, v0, a1, ()) h240)) (
pWant v36 true (
pInt .neq .undef .undef fun v244 =>
pPick v36 v244 (.bool false) fun v245 =>
j10 (v245, v2, v0, a1, ()) h35) (
pPick v36 .undef (.bool false) fun v246 =>
j10 (v246, v2, v0, a1, ()) h35))) (
pWant v36 true (
pCall c (.fn 149 [] []) [.undef] h35 fun v247 h248 =>
pWant v36 true (
pInt .neq .undef v247 fun v249 =>
pPick v36 v249 (.bool false) fun v250 =>
j10 (v250, v2, v0, a1, ()) h248) (
pPick v36 .undef (.bool false) fun v251 =>
j10 (v251, v2, v0, a1, ()) h248)) (
pWant v36 true (
pInt .neq .undef .undef fun v252 =>
pPick v36 v252 (.bool false) fun v253 =>
j10 (v253, v2, v0, a1, ()) h35) (
pPick v36 .undef (.bool false) fun v254 =>
j10 (v254, v2, v0, a1, ()) h35)))))) (
pWant v36 true (
pCall c (.fn 170 [] []) [.undef, .undef] h35 fun v255 h256 =>
pWant v36 true (
pFieldA v2 0 fun v257 =>
pWant v36 true (
pLoad1 h256 v257 fun v258 =>
pWant v36 true (
pCall c (.fn 149 [] []) [v258] h256 fun v259 h260 =>
pWant v36 true (
pInt .neq v255 v259 fun v261 =>
pPick v36 v261 (.bool false) fun v262 =>
pChk v257 none v258 h35 h256 h6.nx <|
j10 (v262, v2, v0, a1, ()) h260) (
pPick v36 .undef (.bool false) fun v263 =>
pChk v257 none v258 h35 h256 h6.nx <|
j10 (v263, v2, v0, a1, ()) h260)) (
pWant v36 true (
pInt .neq v255 .undef fun v264 =>
pPick v36 v264 (.bool false) fun v265 =>
pChk v257 none v258 h35 h256 h6.nx <|
j10 (v265, v2, v0, a1, ()) h256) (
pPick v36 .undef (.bool false) fun v266 =>
pChk v257 none v258 h35 h256 h6.nx <|
j10 (v266, v2, v0, a1, ()) h256))) (
pWant v36 true (
pCall c (.fn 149 [] []) [.undef] h256 fun v267 h268 =>
pWant v36 true (
pInt .neq v255 v267 fun v269 =>
pPick v36 v269 (.bool false) fun v270 =>
j10 (v270, v2, v0, a1, ()) h268) (
pPick v36 .undef (.bool false) fun v271 =>
j10 (v271, v2, v0, a1, ()) h268)) (
pWant v36 true (
pInt .neq v255 .undef fun v272 =>
pPick v36 v272 (.bool false) fun v273 =>
j10 (v273, v2, v0, a1, ()) h256) (
pPick v36 .undef (.bool false) fun v274 =>
j10 (v274, v2, v0, a1, ()) h256)))) (
pWant v36 true (
pLoad1 h256 .undef fun v275 =>
pWant v36 true (
pCall c (.fn 149 [] []) [v275] h256 fun v276 h277 =>
pWant v36 true (
pInt .neq v255 v276 fun v278 =>
pPick v36 v278 (.bool false) fun v279 =>
pChk .undef none v275 h35 h256 h6.nx <|
j10 (v279, v2, v0, a1, ()) h277) (
pPick v36 .undef (.bool false) fun v280 =>
pChk .undef none v275 h35 h256 h6.nx <|
j10 (v280, v2, v0, a1, ()) h277)) (
pWant v36 true (
pInt .neq v255 .undef fun v281 =>
pPick v36 v281 (.bool false) fun v282 =>
pChk .undef none v275 h35 h256 h6.nx <|
j10 (v282, v2, v0, a1, ()) h256) (
pPick v36 .undef (.bool false) fun v283 =>
pChk .undef none v275 h35 h256 h6.nx <|
j10 (v283, v2, v0, a1, ()) h256))) (
pWant v36 true (
pCall c (.fn 149 [] []) [.undef] h256 fun v284 h285 =>
pWant v36 true (
pInt .neq v255 v284 fun v286 =>
pPick v36 v286 (.bool false) fun v287 =>
j10 (v287, v2, v0, a1, ()) h285) (
pPick v36 .undef (.bool false) fun v288 =>
j10 (v288, v2, v0, a1, ()) h285)) (
pWant v36 true (
pInt .neq v255 .undef fun v289 =>
pPick v36 v289 (.bool false) fun v290 =>
j10 (v290, v2, v0, a1, ()) h256) (
pPick v36 .undef (.bool false) fun v291 =>
j10 (v291, v2, v0, a1, ()) h256))))) (
pWant v36 true (
pFieldA v2 0 fun v292 =>
pWant v36 true (
pLoad1 h35 v292 fun v293 =>
pWant v36 true (
pCall c (.fn 149 [] []) [v293] h35 fun v294 h295 =>
pWant v36 true (
pInt .neq .undef v294 fun v296 =>
pPick v36 v296 (.bool false) fun v297 =>
j10 (v297, v2, v0, a1, ()) h295) (
pPick v36 .undef (.bool false) fun v298 =>
j10 (v298, v2, v0, a1, ()) h295)) (
pWant v36 true (
pInt .neq .undef .undef fun v299 =>
pPick v36 v299 (.bool false) fun v300 =>
j10 (v300, v2, v0, a1, ()) h35) (
pPick v36 .undef (.bool false) fun v301 =>
j10 (v301, v2, v0, a1, ()) h35))) (
pWant v36 true (
pCall c (.fn 149 [] []) [.undef] h35 fun v302 h303 =>
pWant v36 true (
pInt .neq .undef v302 fun v304 =>
pPick v36 v304 (.bool false) fun v305 =>
j10 (v305, v2, v0, a1, ()) h303) (
pPick v36 .undef (.bool false) fun v306 =>
j10 (v306, v2, v0, a1, ()) h303)) (
pWant v36 true (
pInt .neq .undef .undef fun v307 =>
pPick v36 v307 (.bool false) fun v308 =>
j10 (v308, v2, v0, a1, ()) h35) (
pPick v36 .undef (.bool false) fun v309 =>
j10 (v309, v2, v0, a1, ()) h35)))) (
pWant v36 true (
pLoad1 h35 .undef fun v310 =>
pWant v36 true (
pCall c (.fn 149 [] []) [v310] h35 fun v311 h312 =>
pWant v36 true (
pInt .neq .undef v311 fun v313 =>
pPick v36 v313 (.bool false) fun v314 =>
j10 (v314, v2, v0, a1, ()) h312) (
pPick v36 .undef (.bool false) fun v315 =>
j10 (v315, v2, v0, a1, ()) h312)) (
pWant v36 true (
pInt .neq .undef .undef fun v316 =>
pPick v36 v316 (.bool false) fun v317 =>
j10 (v317, v2, v0, a1, ()) h35) (
pPick v36 .undef (.bool false) fun v318 =>
j10 (v318, v2, v0, a1, ()) h35))) (
pWant v36 true (
pCall c (.fn 149 [] []) [.undef] h35 fun v319 h320 =>
pWant v36 true (
pInt .neq .undef v319 fun v321 =>
pPick v36 v321 (.bool false) fun v322 =>
j10 (v322, v2, v0, a1, ()) h320) (
pPick v36 .undef (.bool false) fun v323 =>
j10 (v323, v2, v0, a1, ()) h320)) (
pWant v36 true (
pInt .neq .undef .undef fun v324 =>
pPick v36 v324 (.bool false) fun v325 =>
j10 (v325, v2, v0, a1, ()) h35) (
pPick v36 .undef (.bool false) fun v326 =>
j10 (v326, v2, v0, a1, ()) h35))))))))
theorem S144_eq (c : CV) (a0 a1 a2 : AV) (h : AH) : enterK Tryz.prog NN P144 c 144 [a0, a1, a2] h = S144 c a0 a1 a2 h := by kernel_rfl
def W144 (c : CV) (l : List AV) (h : AH) : R := match l with | [a0, a1, a2] => S144 c a0 a1 a2 h | _ => none
theorem W144_ok : WOk Tryz.prog 144 W144 := by
  intro c l h r e
  unfold W144 at e
  split at e
  · exact ⟨P144, by rw [S144_eq]; exact e⟩
  · cases e
/- (quietus/check.stack).behind -/
def P145 : Pl := (.n none .z (.n (some [2, 1, 0]) .z (.n (some [0]) (.n none (.r [[19, 17, 1, 0]]) .z) .z)))
def S145 (c : CV) (a0 a1 a2 : AV) (h : AH) : R :=
joinC (α := AV × AV × AV × Unit → AH → List Nat → R) (fun s0 h1 d2 =>
joinC (α := AV × Unit → AH → List Nat → R) (fun s4 h5 d6 =>
pLeave d6 h5 fun h8 =>
some (s4.1, h8)) fun j7 =>
pCall c (.fn 171 [] []) [s0.1] h1 fun v9 h10 =>
joinC (α := AV × AV × AV × AV × Unit → AH → R) (fun s11 h12 =>
pPick s11.2.1 (.bool true) s11.1 fun v14 =>
pCond v14 (
pBuildS h12 3 [(.int .i64 (.ofNat 0))] 1 [(0, 1, s11.2.2.1)] fun v15 h16 =>
pAppend h16 3 1 s11.2.2.2.1 v15 fun v17 h18 =>
j7 (v17, ()) h18 d2) (
j7 (s11.2.2.2.1, ()) h12 d2)) fun j13 =>
pWant v9 false (
pInt .eql s0.1 (.int .i64 (.ofNat 18)) fun v19 =>
j13 (v19, v9, s0.2.1, s0.2.2.1, ()) h10) (
j13 (.undef, v9, s0.2.1, s0.2.2.1, ()) h10)) fun j3 =>
pCall c (.fn 149 [] []) [a2] h fun v20 h21 =>
pInt .gtr v20 (.int .i64 (.ofNat 0)) fun v22 =>
pCond v22 (
pLenS a0 fun v23 =>
pInt .sub v23 (.int .i64 (.ofNat 1)) fun v24 =>
pSlice h21 3 1 a0 none (some v24) fun v25 =>
j3 (a2, a1, v25, ()) h21 []) (
j3 (a2, a1, a0, ()) h21 [])
theorem S145_eq (c : CV) (a0 a1 a2 : AV) (h : AH) : enterK Tryz.prog NN P145 c 145 [a0, a1, a2] h = S145 c a0 a1 a2 h := by kernel_rfl
def W145 (c : CV) (l : List AV) (h : AH) : R := match l with | [a0, a1, a2] => S145 c a0 a1 a2 h | _ => none
theorem W145_ok : WOk Tryz.prog 145 W145 := by
  intro c l h r e
  unfold W145 at e
  split at e
  · exact ⟨P145, by rw [S145_eq]; exact e⟩
  · cases e
/- (quietus/check.stack).inmost -/
def P146 : Pl := .z
def S146 (_ : CV) (a0 : AV) (h : AH) : R :=
pLenS a0 fun v0 =>
pInt .eql v0 (.int .i64 (.ofNat 0)) fun v1 =>
pCond v1 (
some ((.int .i64 (.negSucc 0)), h)) (
pLenS a0 fun v2 =>
pInt .sub v2 (.int .i64 (.ofNat 1)) fun v3 =>
pIdxS a0 v3 1 fun v4 =>
pLoad1 h v4 fun v5 =>
some (v5, h))
theorem S146_eq (c : CV) (a0 : AV) (h : AH) : enterK Tryz.prog NN P146 c 146 [a0] h = S146 c a0 h := by kernel_rfl
def W146 (c : CV) (l : List AV) (h : AH) : R := match l with | [a0] => S146 c a0 h | _ => none
theorem W146_ok : WOk Tryz.prog 146 W146 := by
  intro c l h r e
  unfold W146 at e
  split at e
  · exact ⟨P146, by rw [S146_eq]; exact e⟩
  · cases e
/- quietus/check.jumps -/
def P147 : Pl := (.n none .z (.n none (.n none .z (.n none (.n (some [11, 10, 9, 2, 1]) (.n none .z (.n none .z (.n none (.n (some [11, 10, 9, 2, 1]) (.n none .z (.n none .z (.n none (.r [[33, 26, 11, 10, 9, 7, 6, 2, 1], [38, 33, 26, 11, 10, 9, 7, 6, 2, 1], [39, 26, 11, 10, 9, 7, 6, 2, 1], [48, 41, 11, 10, 9, 7, 6, 2, 1], [58, 48, 41, 11, 10, 9, 6, 2, 1], [59, 41, 11, 10, 9, 6, 2, 1]]) .z))) .z) .z))) .z) .z)) .z))
def S147 (c : CV) (a0 a1 : AV) (h : AH) : R :=
pBox h 33 a0 fun v0 h1 =>
pFieldA v0 0 fun v2 =>
pLoad1 h1 v2 fun v3 =>
pLenS v3 fun v4 =>
loopC (σ := AV × AV × AV × AV × AV × Unit) NN (fun i8 s5 h6 d7 =>
pInt .lss s5.1 s5.2.1 fun v9 =>
pCond v9 (
joinC (α := AV × AV × AV × AV × AV × Unit → AH → List Nat → R) (fun s10 h11 d12 =>
pInt .add s10.1 (.int .i64 (.ofNat 1)) fun v14 =>
i8 (v14, s10.2.1, s10.2.2.1, s10.2.2.2.1, s10.2.2.2.2.1, ()) h11 d12) fun j13 =>
pIdxS s5.2.2.1 s5.1 5 fun v15 =>
pLoadN h6 v15 5 fun v16 =>
pBox h6 30 (.agg [(.int .i64 (.ofNat 0)), (.int .i64 (.ofNat 0)), (.int .i64 (.ofNat 0)), (.int .i64 (.ofNat 0)), (.int .u64 (.ofNat 0))]) fun v17 h18 =>
pStore h18 v17 v16 5 fun h19 =>
pFieldA v17 0 fun v20 =>
pLoad1 h19 v20 fun v21 =>
pCall c (.fn 172 [] []) [v21] h19 fun v22 h23 =>
pUn .not v22 fun v24 =>
pCond v24 (
j13 (s5.1, s5.2.1, s5.2.2.1, s5.2.2.2.1, s5.2.2.2.2.1, ()) h23 d7) (
pFieldA v17 3 fun v25 =>
pLoad1 h23 v25 fun v26 =>
pFieldA s5.2.2.2.1 0 fun v27 =>
pLoad1 h23 v27 fun v28 =>
pLenS v28 fun v29 =>
pInt .gtr v26 v29 fun v30 =>
joinC (α := AV × AV × AV × AV × AV × AV × AV × AV × AV × Unit → AH → R) (fun s31 h32 =>
joinC (α := AV × AV × AV × AV × AV × AV × AV × AV × AV × AV × Unit → AH → R) (fun s34 h35 =>
joinC (α := AV × AV × AV × AV × AV × AV × AV × AV × AV × Unit → AH → R) (fun s37 h38 =>
pPick s37.2.1 (.bool true) s37.1 fun v40 =>
joinC (α := AV × AV × AV × AV × AV × AV × AV × AV × AV × Unit → AH → R) (fun s41 h42 =>
joinC (α := AV × AV × AV × AV × AV × AV × AV × AV × AV × Unit → AH → R) (fun s44 h45 =>
joinC (α := AV × AV × AV × AV × AV × AV × AV × AV × Unit → AH → R) (fun s47 h48 =>
pPick s47.2.1 (.bool true) s47.1 fun v50 =>
pCond v50 (
pLeave d7 h48 fun h51 =>
some ((.tup [s47.2.2.2.2.2.1, (.int .i64 (.ofNat 2))]), h51)) (
j13 (s47.2.2.1, s47.2.2.2.1, s47.2.2.2.2.1, s47.2.2.2.2.2.2.1, s47.2.2.2.2.2.2.2.1, ()) h48 d7)) fun j49 =>
pWant s44.2.2.1 false (
pPick s44.2.1 s44.1 (.bool false) fun v52 =>
j49 (v52, s44.2.2.1, s44.2.2.2.1, s44.2.2.2.2.1, s44.2.2.2.2.2.1, s44.2.2.2.2.2.2.1, s44.2.2.2.2.2.2.2.1, s44.2.2.2.2.2.2.2.2.1, ()) h45) (
j49 (.undef, s44.2.2.1, s44.2.2.2.1, s44.2.2.2.2.1, s44.2.2.2.2.2.1, s44.2.2.2.2.2.2.1, s44.2.2.2.2.2.2.2.1, s44.2.2.2.2.2.2.2.2.1, ()) h45)) fun j46 =>
pWant s41.1 true (
pFieldA s41.2.2.2.2.2.1 3 fun v53 =>
pLoad1 h42 v53 fun v54 =>
pIdxS s41.2.2.2.2.2.2.2.2.1 v54 1 fun v55 =>
pLoad1 h42 v55 fun v56 =>
pIdxS s41.2.2.2.2.2.2.2.2.1 s41.2.2.2.2.2.2.1 1 fun v57 =>
pLoad1 h42 v57 fun v58 =>
pInt .neq v56 v58 fun v59 =>
j46 (v59, s41.1, s41.2.1, s41.2.2.1, s41.2.2.2.1, s41.2.2.2.2.1, s41.2.2.2.2.2.2.1, s41.2.2.2.2.2.2.2.1, s41.2.2.2.2.2.2.2.2.1, ()) h42) (
j46 (.undef, s41.1, s41.2.1, s41.2.2.1, s41.2.2.2.1, s41.2.2.2.2.1, s41.2.2.2.2.2.2.1, s41.2.2.2.2.2.2.2.1, s41.2.2.2.2.2.2.2.2.1, ()) h42)) fun j43 =>
pWant v40 false (
pFieldA s37.2.2.2.2.2.1 3 fun v60 =>
pLoad1 h38 v60 fun v61 =>
pFieldA s37.2.2.2.2.2.2.2.1 0 fun v62 =>
pLoad1 h38 v62 fun v63 =>
pLenS v63 fun v64 =>
pInt .lss v61 v64 fun v65 =>
j43 (v65, v40, s37.2.2.1, s37.2.2.2.1, s37.2.2.2.2.1, s37.2.2.2.2.2.1, s37.2.2.2.2.2.2.1, s37.2.2.2.2.2.2.2.1, s37.2.2.2.2.2.2.2.2.1, ()) h38) (
j43 (.undef, v40, s37.2.2.1, s37.2.2.2.1, s37.2.2.2.2.1, s37.2.2.2.2.2.1, s37.2.2.2.2.2.2.1, s37.2.2.2.2.2.2.2.1, s37.2.2.2.2.2.2.2.2.1, ()) h38)) fun j39 =>
pWant s34.2.2.1 false (
pPick s34.2.1 s34.1 (.bool false) fun v66 =>
j39 (v66, s34.2.2.1, s34.2.2.2.1, s34.2.2.2.2.1, s34.2.2.2.2.2.1, s34.2.2.2.2.2.2.1, s34.2.2.2.2.2.2.2.1, s34.2.2.2.2.2.2.2.2.1, s34.2.2.2.2.2.2.2.2.2.1, ()) h35) (
j39 (.undef, s34.2.2.1, s34.2.2.2.1, s34.2.2.2.2.1, s34.2.2.2.2.2.1, s34.2.2.2.2.2.2.1, s34.2.2.2.2.2.2.2.1, s34.2.2.2.2.2.2.2.2.1, s34.2.2.2.2.2.2.2.2.2.1, ()) h35)) fun j36 =>
pWant s31.1 true (
pIdxS s31.2.2.2.2.2.2.2.2.1 s31.2.2.2.2.2.2.1 1 fun v67 =>
pLoad1 h32 v67 fun v68 =>
pInt .neq v68 (.int .i64 (.negSucc 0)) fun v69 =>
j36 (v69, s31.1, s31.2.1, s31.2.2.1, s31.2.2.2.1, s31.2.2.2.2.1, s31.2.2.2.2.2.1, s31.2.2.2.2.2.2.1, s31.2.2.2.2.2.2.2.1, s31.2.2.2.2.2.2.2.2.1, ()) h32) (
j36 (.undef, s31.1, s31.2.1, s31.2.2.1, s31.2.2.2.1, s31.2.2.2.2.1, s31.2.2.2.2.2.1, s31.2.2.2.2.2.2.1, s31.2.2.2.2.2.2.2.1, s31.2.2.2.2.2.2.2.2.1, ()) h32)) fun j33 =>
pWant v30 false (
pFieldA v17 3 fun v70 =>
pLoad1 h23 v70 fun v71 =>
pFieldA s5.2.2.2.1 0 fun v72 =>
pLoad1 h23 v72 fun v73 =>
pLenS v73 fun v74 =>
pInt .eql v71 v74 fun v75 =>
j33 (v75, v30, s5.1, s5.2.1, s5.2.2.1, v17, s5.1, s5.2.2.2.1, s5.2.2.2.2.1, ()) h23) (
j33 (.undef, v30, s5.1, s5.2.1, s5.2.2.1, v17, s5.1, s5.2.2.2.1, s5.2.2.2.2.1, ()) h23))) (
pLeave d7 h6 fun h76 =>
some ((.tup [(.int .i64 (.ofNat 0)), (.int .i64 (.ofNat 0))]), h76))) ((.int .i64 (.ofNat 0)), v4, v3, v0, a1, ()) h1 []
theorem S147_eq (c : CV) (a0 a1 : AV) (h : AH) : enterK Tryz.prog NN P147 c 147 [a0, a1] h = S147 c a0 a1 h := by kernel_rfl
def W147 (c : CV) (l : List AV) (h : AH) : R := match l with | [a0, a1] => S147 c a0 a1 h | _ => none
theorem W147_ok : WOk Tryz.prog 147 W147 := by
  intro c l h r e
  unfold W147 at e
  split at e
  · exact ⟨P147, by rw [S147_eq]; exact e⟩
  · cases e
/- quietus/check.regions -/
def P148 : Pl := (.n none .z (.n none .z (.n none .z (.n none (.n none .z (.n none (.n (some [14, 13, 12, 4, 3]) .z .z) .z)) .z))))
def S148 (c : CV) (a0 : AV) (h : AH) : R :=
pBox h 33 a0 fun v0 h1 =>
pFieldA v0 0 fun v2 =>
pLoad1 h1 v2 fun v3 =>
pLenS v3 fun v4 =>
pMake h1 3 [(.int .i64 (.ofNat 0))] v4 v4 fun v5 h6 =>
pFieldA v0 0 fun v7 =>
pLoad1 h6 v7 fun v8 =>
pLenS v8 fun v9 =>
loopC (σ := AV × AV × AV × AV × AV × Unit) NN (fun i13 s10 h11 d12 =>
pInt .lss s10.1 s10.2.1 fun v14 =>
pCond v14 (
pIdxS s10.2.2.1 s10.1 5 fun v15 =>
pLoadN h11 v15 5 fun v16 =>
pBox h11 30 (.agg [(.int .i64 (.ofNat 0)), (.int .i64 (.ofNat 0)), (.int .i64 (.ofNat 0)), (.int .i64 (.ofNat 0)), (.int .u64 (.ofNat 0))]) fun v17 h18 =>
pStore h18 v17 v16 5 fun h19 =>
pCall c (.fn 146 [] []) [s10.2.2.2.1] h19 fun v20 h21 =>
pIdxS s10.2.2.2.2.1 s10.1 1 fun v22 =>
pStore h21 v22 v20 1 fun h23 =>
pFieldA v17 0 fun v24 =>
pLoad1 h23 v24 fun v25 =>
pCall c (.fn 145 [] []) [s10.2.2.2.1, s10.1, v25] h23 fun v26 h27 =>
pInt .add s10.1 (.int .i64 (.ofNat 1)) fun v28 =>
i13 (v28, s10.2.1, s10.2.2.1, v26, s10.2.2.2.2.1, ()) h27 d12) (
pLeave d12 h11 fun h29 =>
some (s10.2.2.2.2.1, h29))) ((.int .i64 (.ofNat 0)), v9, v8, .nils, v5, ()) h6 []
theorem S148_eq (c : CV) (a0 : AV) (h : AH) : enterK Tryz.prog NN P148 c 148 [a0] h = S148 c a0 h := by kernel_rfl
def W148 (c : CV) (l : List AV) (h : AH) : R := match l with | [a0] => S148 c a0 h | _ => none
theorem W148_ok : WOk Tryz.prog 148 W148 := by
  intro c l h r e
  unfold W148 at e
  split at e
  · exact ⟨P148, by rw [S148_eq]; exact e⟩
  · cases e
/- quietus/check.ends -/
def P149 : Pl := .z
def S149 (_ : CV) (a0 : AV) (h : AH) : R :=
pInt .eql a0 (.int .i64 (.ofNat 15)) fun v0 =>
pCond v0 (
some ((.int .i64 (.ofNat 14)), h)) (
pInt .eql a0 (.int .i64 (.ofNat 18)) fun v1 =>
pCond v1 (
some ((.int .i64 (.ofNat 17)), h)) (
pInt .eql a0 (.int .i64 (.ofNat 19)) fun v2 =>
pCond v2 (
some ((.int .i64 (.ofNat 18)), h)) (
some ((.int .i64 (.ofNat 0)), h))))
theorem S149_eq (c : CV) (a0 : AV) (h : AH) : enterK Tryz.prog NN P149 c 149 [a0] h = S149 c a0 h := by kernel_rfl
def W149 (c : CV) (l : List AV) (h : AH) : R := match l with | [a0] => S149 c a0 h | _ => none
theorem W149_ok : WOk Tryz.prog 149 W149 := by
  intro c l h r e
  unfold W149 at e
  split at e
  · exact ⟨P149, by rw [S149_eq]; exact e⟩
  · cases e
/- quietus/interp.truth -/
def P150 : Pl := .z
def S150 (_ : CV) (a0 : AV) (h : AH) : R :=
pCond a0 (
some ((.int .u64 (.ofNat 1)), h)) (
some ((.int .u64 (.ofNat 0)), h))
theorem S150_eq (c : CV) (a0 : AV) (h : AH) : enterK Tryz.prog NN P150 c 150 [a0] h = S150 c a0 h := by kernel_rfl
def W150 (c : CV) (l : List AV) (h : AH) : R := match l with | [a0] => S150 c a0 h | _ => none
theorem W150_ok : WOk Tryz.prog 150 W150 := by
  intro c l h r e
  unfold W150 at e
  split at e
  · exact ⟨P150, by rw [S150_eq]; exact e⟩
  · cases e
/- (*quietus/slate.Slate).AddNum -/
def P151 : Pl := .z
def S151 (c : CV) (a0 a1 : AV) (h : AH) : R :=
pCall c (.fn 173 [] []) [a0, (.iface 22 a1)] h fun v0 h1 =>
some (v0, h1)
theorem S151_eq (c : CV) (a0 a1 : AV) (h : AH) : enterK Tryz.prog NN P151 c 151 [a0, a1] h = S151 c a0 a1 h := by kernel_rfl
def W151 (c : CV) (l : List AV) (h : AH) : R := match l with | [a0, a1] => S151 c a0 a1 h | _ => none
theorem W151_ok : WOk Tryz.prog 151 W151 := by
  intro c l h r e
  unfold W151 at e
  split at e
  · exact ⟨P151, by rw [S151_eq]; exact e⟩
  · cases e
/- (*quietus/interp.Interp).call -/
def P152 : Pl := (.n none .z (.n none .z (.n none (.n none .z (.n none (.n none .z (.n none (.n none (.r [[4]]) .z) (.n none .z (.n none (.n none (.r [[4]]) .z) (.n none .z (.n none (.n none (.r [[4]]) .z) (.n none .z (.n none (.n none (.r [[4]]) .z) (.n none .z (.n none (.n none (.r [[4]]) .z) (.n none .z (.n none (.n none (.r [[4]]) .z) (.n none .z (.n none .z (.n none .z (.n none .z (.n none .z (.n none (.n none (.r [[4]]) .z) (.n none .z (.n none (.n none (.r [[4]]) .z) (.n none .z (.n none (.n none (.r [[4]]) .z) .z)))))))))))))))))))))) .z)) .z)))
def S152 (c : CV) (a0 a1 : AV) (h : AH) : R :=
pBox h 30 a1 fun v0 h1 =>
pFieldA v0 2 fun v2 =>
pLoad1 h1 v2 fun v3 =>
pInt .add (.int .i64 (.ofNat 6)) v3 fun v4 =>
pFieldA v0 3 fun v5 =>
pLoad1 h1 v5 fun v6 =>
pNil a0 fun v7 =>
pFieldA v7 6 fun v8 =>
pIdxP v8 v6 8 1 fun v9 =>
pLoad1 h1 v9 fun v10 =>
pFieldA v0 3 fun v11 =>
pLoad1 h1 v11 fun v12 =>
pInt .add v12 (.int .i64 (.ofNat 1)) fun v13 =>
pNil a0 fun v14 =>
pFieldA v14 6 fun v15 =>
pIdxP v15 v13 8 1 fun v16 =>
pLoad1 h1 v16 fun v17 =>
pFieldA v0 1 fun v18 =>
pLoad1 h1 v18 fun v19 =>
pInt .eql v19 (.int .i64 (.ofNat 1)) fun v20 =>
pCond v20 (
joinC (α := AV × Unit → AH → R) (fun s21 h22 =>
some (s21.1, h22)) fun j23 =>
pLoadN h1 v0 5 fun v24 =>
pCall c (.fn 174 [] []) [a0, v24] h1 fun v25 h26 =>
pNil a0 fun v27 =>
pFieldA v27 1 fun v28 =>
pLoad1 h26 v28 fun v29 =>
pCall c (.fn 175 [] []) [v29, v4, v10] h26 fun v30 h31 =>
pExtract v30 0 fun v32 =>
pExtract v30 1 fun v33 =>
pCall c v25 [v32, v33] h31 fun v34 h35 =>
pChk v28 none v29 h1 h26 h1.nx <|
j23 (v34, ()) h35) (
pInt .eql v19 (.int .i64 (.ofNat 2)) fun v36 =>
pCond v36 (
joinC (α := AV × Unit → AH → R) (fun s37 h38 =>
some (s37.1, h38)) fun j39 =>
pLoadN h1 v0 5 fun v40 =>
pCall c (.fn 174 [] []) [a0, v40] h1 fun v41 h42 =>
pNil a0 fun v43 =>
pFieldA v43 1 fun v44 =>
pLoad1 h42 v44 fun v45 =>
pCall c (.fn 176 [] []) [v45, v4, v10] h42 fun v46 h47 =>
pExtract v46 0 fun v48 =>
pExtract v46 1 fun v49 =>
pCall c v41 [v48, v49] h47 fun v50 h51 =>
pChk v44 none v45 h1 h42 h1.nx <|
j39 (v50, ()) h51) (
pInt .eql v19 (.int .i64 (.ofNat 3)) fun v52 =>
pCond v52 (
joinC (α := AV × Unit → AH → R) (fun s53 h54 =>
some (s53.1, h54)) fun j55 =>
pLoadN h1 v0 5 fun v56 =>
pCall c (.fn 174 [] []) [a0, v56] h1 fun v57 h58 =>
pNil a0 fun v59 =>
pFieldA v59 1 fun v60 =>
pLoad1 h58 v60 fun v61 =>
pCall c (.fn 177 [] []) [v61, v4, v10] h58 fun v62 h63 =>
pExtract v62 0 fun v64 =>
pExtract v62 1 fun v65 =>
pCall c v57 [v64, v65] h63 fun v66 h67 =>
pChk v60 none v61 h1 h58 h1.nx <|
j55 (v66, ()) h67) (
pInt .eql v19 (.int .i64 (.ofNat 4)) fun v68 =>
pCond v68 (
joinC (α := AV × Unit → AH → R) (fun s69 h70 =>
some (s69.1, h70)) fun j71 =>
pLoadN h1 v0 5 fun v72 =>
pCall c (.fn 174 [] []) [a0, v72] h1 fun v73 h74 =>
pNil a0 fun v75 =>
pFieldA v75 1 fun v76 =>
pLoad1 h74 v76 fun v77 =>
pCall c (.fn 178 [] []) [v77, v4, v10, v17] h74 fun v78 h79 =>
pExtract v78 0 fun v80 =>
pExtract v78 1 fun v81 =>
pCall c v73 [v80, v81] h79 fun v82 h83 =>
pChk v76 none v77 h1 h74 h1.nx <|
j71 (v82, ()) h83) (
pInt .eql v19 (.int .i64 (.ofNat 5)) fun v84 =>
pCond v84 (
joinC (α := AV × Unit → AH → R) (fun s85 h86 =>
some (s85.1, h86)) fun j87 =>
pLoadN h1 v0 5 fun v88 =>
pCall c (.fn 179 [] []) [a0, v88] h1 fun v89 h90 =>
pNil a0 fun v91 =>
pFieldA v91 1 fun v92 =>
pLoad1 h90 v92 fun v93 =>
pCall c (.fn 180 [] []) [v93, v4, v10] h90 fun v94 h95 =>
pExtract v94 0 fun v96 =>
pExtract v94 1 fun v97 =>
pExtract v94 2 fun v98 =>
pCall c v89 [v96, v97, v98] h95 fun v99 h100 =>
pChk v92 none v93 h1 h90 h1.nx <|
j87 (v99, ()) h100) (
pInt .eql v19 (.int .i64 (.ofNat 6)) fun v101 =>
pCond v101 (
joinC (α := AV × Unit → AH → R) (fun s102 h103 =>
some (s102.1, h103)) fun j104 =>
pLoadN h1 v0 5 fun v105 =>
pCall c (.fn 174 [] []) [a0, v105] h1 fun v106 h107 =>
pNil a0 fun v108 =>
pFieldA v108 1 fun v109 =>
pLoad1 h107 v109 fun v110 =>
pCall c (.fn 181 [] []) [v110, v4, v10] h107 fun v111 h112 =>
pExtract v111 0 fun v113 =>
pExtract v111 1 fun v114 =>
pCall c v106 [v113, v114] h112 fun v115 h116 =>
pChk v109 none v110 h1 h107 h1.nx <|
j104 (v115, ()) h116) (
pInt .eql v19 (.int .i64 (.ofNat 7)) fun v117 =>
pCond v117 (
pCall c (.fn 182 [] []) [a0, v4, v10] h1 fun v118 h119 =>
some (v118, h119)) (
pInt .eql v19 (.int .i64 (.ofNat 8)) fun v120 =>
pCond v120 (
pLoadN h1 v0 5 fun v121 =>
pCall c (.fn 183 [] []) [a0, v121, v4] h1 fun v122 h123 =>
some (v122, h123)) (
pInt .eql v19 (.int .i64 (.ofNat 9)) fun v124 =>
pCond v124 (
joinC (α := AV × Unit → AH → R) (fun s125 h126 =>
some (s125.1, h126)) fun j127 =>
pLoadN h1 v0 5 fun v128 =>
pCall c (.fn 174 [] []) [a0, v128] h1 fun v129 h130 =>
pNil a0 fun v131 =>
pFieldA v131 1 fun v132 =>
pLoad1 h130 v132 fun v133 =>
pCall c (.fn 184 [] []) [v133, v4, v10, v17] h130 fun v134 h135 =>
pExtract v134 0 fun v136 =>
pExtract v134 1 fun v137 =>
pCall c v129 [v136, v137] h135 fun v138 h139 =>
pChk v132 none v133 h1 h130 h1.nx <|
j127 (v138, ()) h139) (
pInt .eql v19 (.int .i64 (.ofNat 10)) fun v140 =>
pCond v140 (
joinC (α := AV × Unit → AH → R) (fun s141 h142 =>
some (s141.1, h142)) fun j143 =>
pLoadN h1 v0 5 fun v144 =>
pCall c (.fn 179 [] []) [a0, v144] h1 fun v145 h146 =>
pNil a0 fun v147 =>
pFieldA v147 1 fun v148 =>
pLoad1 h146 v148 fun v149 =>
pCall c (.fn 185 [] []) [v149, v4, v10] h146 fun v150 h151 =>
pExtract v150 0 fun v152 =>
pExtract v150 1 fun v153 =>
pExtract v150 2 fun v154 =>
pCall c v145 [v152, v153, v154] h151 fun v155 h156 =>
pChk v148 none v149 h1 h146 h1.nx <|
j143 (v155, ()) h156) (
pInt .eql v19 (.int .i64 (.ofNat 11)) fun v157 =>
pCond v157 (
joinC (α := AV × Unit → AH → R) (fun s158 h159 =>
some (s158.1, h159)) fun j160 =>
pLoadN h1 v0 5 fun v161 =>
pCall c (.fn 174 [] []) [a0, v161] h1 fun v162 h163 =>
pNil a0 fun v164 =>
pFieldA v164 1 fun v165 =>
pLoad1 h163 v165 fun v166 =>
pCall c (.fn 186 [] []) [v166, v4, v10] h163 fun v167 h168 =>
pExtract v167 0 fun v169 =>
pExtract v167 1 fun v170 =>
pCall c v162 [v169, v170] h168 fun v171 h172 =>
pChk v165 none v166 h1 h163 h1.nx <|
j160 (v171, ()) h172) (
pNil a0 fun v173 =>
pFieldA v173 1 fun v174 =>
pLoad1 h1 v174 fun v175 =>
pCall c (.fn 187 [] []) [v175, v4, v10, v17] h1 fun v176 h177 =>
pExtract v176 0 fun v178 =>
pExtract v176 1 fun v179 =>
pLoadN h177 v0 5 fun v180 =>
pCall c (.fn 179 [] []) [a0, v180] h177 fun v181 h182 =>
pLenS v178 fun v183 =>
pConvI .u64 v183 fun v184 =>
pCall c v181 [v184, (.bool true), v179] h182 fun v185 h186 =>
some (v185, h186))))))))))))
theorem S152_eq (c : CV) (a0 a1 : AV) (h : AH) : enterK Tryz.prog NN P152 c 152 [a0, a1] h = S152 c a0 a1 h := by kernel_rfl
def W152 (c : CV) (l : List AV) (h : AH) : R := match l with | [a0, a1] => S152 c a0 a1 h | _ => none
theorem W152_ok : WOk Tryz.prog 152 W152 := by
  intro c l h r e
  unfold W152 at e
  split at e
  · exact ⟨P152, by rw [S152_eq]; exact e⟩
  · cases e
/- (*quietus/interp.Interp).touch -/
def P153 : Pl := (.n none .z (.n none (.n none .z (.n none (.n none .z (.n none (.n none .z (.n none .z (.n none .z (.n (some [10]) .z .z)))) (.n none .z (.n none .z (.n none .z (.n none (.n none .z (.n none .z (.n (some [15]) .z .z))) .z)))))) .z)) .z))
def S153 (c : CV) (a0 a1 a2 a3 : AV) (h : AH) : R :=
pBox h 30 a1 fun v0 h1 =>
pFieldA v0 0 fun v2 =>
pLoad1 h1 v2 fun v3 =>
pInt .eql v3 (.int .i64 (.ofNat 8)) fun v4 =>
pCond v4 (
pFieldA v0 3 fun v5 =>
pLoad1 h1 v5 fun v6 =>
pCall c (.fn 188 [] []) [a3, v6] h1 fun v7 h8 =>
pExtract v7 0 fun v9 =>
pExtract v7 1 fun v10 =>
pInt .neq v10 (.int .i64 (.ofNat 0)) fun v11 =>
pCond v11 (
some (v10, h8)) (
pNil a0 fun v12 =>
pFieldA v12 1 fun v13 =>
pLoad1 h8 v13 fun v14 =>
pCall c (.fn 121 [] []) [v14, v9] h8 fun v15 h16 =>
pExtract v15 0 fun v17 =>
pExtract v15 1 fun v18 =>
joinC (α := AV × Unit → AH → List Nat → R) (fun s19 h20 d21 =>
pLeave d21 h20 fun h23 =>
some (s19.1, h23)) fun j22 =>
pInt .eql v18 (.int .i64 (.ofNat 0)) fun v24 =>
pCond v24 (
pNil a2 fun v25 =>
pStore h16 v25 v17 1 fun h26 =>
j22 (v18, ()) h26 []) (
j22 (v18, ()) h16 []))) (
pInt .eql v3 (.int .i64 (.ofNat 9)) fun v27 =>
pCond v27 (
pNil a2 fun v28 =>
pLoad1 h1 v28 fun v29 =>
pFieldA v0 3 fun v30 =>
pLoad1 h1 v30 fun v31 =>
pCall c (.fn 188 [] []) [v29, v31] h1 fun v32 h33 =>
pExtract v32 0 fun v34 =>
pExtract v32 1 fun v35 =>
pInt .neq v35 (.int .i64 (.ofNat 0)) fun v36 =>
pCond v36 (
some (v35, h33)) (
pNil a0 fun v37 =>
pFieldA v37 1 fun v38 =>
pLoad1 h33 v38 fun v39 =>
pCall c (.fn 189 [] []) [v39, v34, a3] h33 fun v40 h41 =>
some (v40, h41))) (
pInt .eql v3 (.int .i64 (.ofNat 10)) fun v42 =>
pCond v42 (
pInt .geq a3 (.int .u64 (.ofNat 2147483648)) fun v43 =>
pCond v43 (
some ((.int .i64 (.ofNat 3)), h1)) (
pNil a0 fun v44 =>
pFieldA v44 1 fun v45 =>
pLoad1 h1 v45 fun v46 =>
pConvI .i64 a3 fun v47 =>
pCall c (.fn 190 [] []) [v46, v47] h1 fun v48 h49 =>
pExtract v48 0 fun v50 =>
pExtract v48 1 fun v51 =>
joinC (α := AV × Unit → AH → List Nat → R) (fun s52 h53 d54 =>
pLeave d54 h53 fun h56 =>
some (s52.1, h56)) fun j55 =>
pInt .eql v51 (.int .i64 (.ofNat 0)) fun v57 =>
pCond v57 (
pConvI .u64 v50 fun v58 =>
pNil a2 fun v59 =>
pStore h49 v59 v58 1 fun h60 =>
j55 (v51, ()) h60 []) (
j55 (v51, ()) h49 []))) (
pNil a2 fun v61 =>
pLoad1 h1 v61 fun v62 =>
pInt .geq v62 (.int .u64 (.ofNat 2147483648)) fun v63 =>
pCond v63 (
some ((.int .i64 (.ofNat 2)), h1)) (
pNil a0 fun v64 =>
pFieldA v64 1 fun v65 =>
pLoad1 h1 v65 fun v66 =>
pNil a2 fun v67 =>
pLoad1 h1 v67 fun v68 =>
pConvI .i64 v68 fun v69 =>
pCall c (.fn 191 [] []) [v66, v69] h1 fun v70 h71 =>
some (v70, h71)))))
theorem S153_eq (c : CV) (a0 a1 a2 a3 : AV) (h : AH) : enterK Tryz.prog NN P153 c 153 [a0, a1, a2, a3] h = S153 c a0 a1 a2 a3 h := by kernel_rfl
def W153 (c : CV) (l : List AV) (h : AH) : R := match l with | [a0, a1, a2, a3] => S153 c a0 a1 a2 a3 h | _ => none
theorem W153_ok : WOk Tryz.prog 153 W153 := by
  intro c l h r e
  unfold W153 at e
  split at e
  · exact ⟨P153, by rw [S153_eq]; exact e⟩
  · cases e
/- (*quietus/interp.Interp).turn -/
def P154 : Pl := (.n none .z (.n none (.n none .z (.n none (.n (some [7, 6, 3, 0]) .z (.n none .z (.n (some [18, 6, 0]) .z .z))) .z)) .z))
def S154 (c : CV) (a0 a1 : AV) (h : AH) : R :=
pBox h 30 a1 fun v0 h1 =>
pFieldA v0 0 fun v2 =>
pLoad1 h1 v2 fun v3 =>
joinC (α := AV × AV × AV × AV × Unit → AH → List Nat → R) (fun s4 h5 d6 =>
pCond s4.1 (
pFieldA s4.2.2.1 0 fun v8 =>
pLoad1 h5 v8 fun v9 =>
pNil s4.2.2.2.1 fun v10 =>
pFieldA v10 15 fun v11 =>
pLoad1 h5 v11 fun v12 =>
pCall c (.fn 192 [] []) [s4.2.2.2.1, v9, v12] h5 fun v13 h14 =>
pLeave d6 h14 fun h15 =>
some (v13, h15)) (
joinC (α := AV × AV × AV × Unit → AH → List Nat → R) (fun s16 h17 d18 =>
pCond s16.1 (
pCall c (.fn 193 [] []) [s16.2.2.1] h17 fun _ h21 =>
pNil s16.2.2.1 fun v22 =>
pFieldA v22 1 fun v23 =>
pLoad1 h21 v23 fun v24 =>
pCall c (.fn 194 [] []) [v24] h21 fun v25 h26 =>
pLeave d18 h26 fun h27 =>
some (v25, h27)) (
pInt .eql s16.2.1 (.int .i64 (.ofNat 18)) fun v28 =>
pCond v28 (
pCall c (.fn 193 [] []) [s16.2.2.1] h17 fun _ h30 =>
pNil s16.2.2.1 fun v31 =>
pFieldA v31 2 fun v32 =>
pLoad1 h30 v32 fun v33 =>
pNil s16.2.2.1 fun v34 =>
pFieldA v34 15 fun v35 =>
pLoad1 h30 v35 fun v36 =>
pIdxS v33 v36 1 fun v37 =>
pLoad1 h30 v37 fun v38 =>
pInt .add v38 (.int .i64 (.ofNat 1)) fun v39 =>
pNil s16.2.2.1 fun v40 =>
pFieldA v40 16 fun v41 =>
pStore h30 v41 v39 1 fun h42 =>
pNil s16.2.2.1 fun v43 =>
pFieldA v43 1 fun v44 =>
pLoad1 h42 v44 fun v45 =>
pCall c (.fn 194 [] []) [v45] h42 fun v46 h47 =>
pLeave d18 h47 fun h48 =>
some (v46, h48)) (
pInt .eql s16.2.1 (.int .i64 (.ofNat 16)) fun v49 =>
pCond v49 (
pCall c (.fn 193 [] []) [s16.2.2.1] h17 fun v50 h51 =>
pCall c (.fn 195 [] []) [s16.2.2.1, v50] h51 fun _ h53 =>
pNil s16.2.2.1 fun v54 =>
pFieldA v54 2 fun v55 =>
pLoad1 h53 v55 fun v56 =>
pNil s16.2.2.1 fun v57 =>
pFieldA v57 15 fun v58 =>
pLoad1 h53 v58 fun v59 =>
pIdxS v56 v59 1 fun v60 =>
pLoad1 h53 v60 fun v61 =>
pInt .add v61 (.int .i64 (.ofNat 1)) fun v62 =>
pNil s16.2.2.1 fun v63 =>
pFieldA v63 16 fun v64 =>
pStore h53 v64 v62 1 fun h65 =>
pNil s16.2.2.1 fun v66 =>
pFieldA v66 1 fun v67 =>
pLoad1 h65 v67 fun v68 =>
pCall c (.fn 196 [] []) [v68] h65 fun v69 h70 =>
pLeave d18 h70 fun h71 =>
some (v69, h71)) (
pCall c (.fn 197 [] []) [s16.2.2.1] h17 fun v72 h73 =>
pLeave d18 h73 fun h74 =>
some (v72, h74))))) fun j19 =>
pInt .eql s4.2.1 (.int .i64 (.ofNat 15)) fun v75 =>
pCond v75 (
j19 (v75, s4.2.1, s4.2.2.2.1, ()) h5 d6) (
pInt .eql s4.2.1 (.int .i64 (.ofNat 19)) fun v76 =>
j19 (v76, s4.2.1, s4.2.2.2.1, ()) h5 d6))) fun j7 =>
pInt .eql v3 (.int .i64 (.ofNat 14)) fun v77 =>
pCond v77 (
j7 (v77, v3, v0, a0, ()) h1 []) (
pInt .eql v3 (.int .i64 (.ofNat 17)) fun v78 =>
j7 (v78, v3, v0, a0, ()) h1 [])
theorem S154_eq (c : CV) (a0 a1 : AV) (h : AH) : enterK Tryz.prog NN P154 c 154 [a0, a1] h = S154 c a0 a1 h := by kernel_rfl
def W154 (c : CV) (l : List AV) (h : AH) : R := match l with | [a0, a1] => S154 c a0 a1 h | _ => none
theorem W154_ok : WOk Tryz.prog 154 W154 := by
  intro c l h r e
  unfold W154 at e
  split at e
  · exact ⟨P154, by rw [S154_eq]; exact e⟩
  · cases e
/- (*quietus/view.View).Size -/
def P155 : Pl := .z
def S155 (_ : CV) (a0 : AV) (h : AH) : R :=
pNil a0 fun v0 =>
pFieldA v0 0 fun v1 =>
pLoad1 h v1 fun v2 =>
pLenS v2 fun v3 =>
some (v3, h)
theorem S155_eq (c : CV) (a0 : AV) (h : AH) : enterK Tryz.prog NN P155 c 155 [a0] h = S155 c a0 h := by kernel_rfl
def W155 (c : CV) (l : List AV) (h : AH) : R := match l with | [a0] => S155 c a0 h | _ => none
theorem W155_ok : WOk Tryz.prog 155 W155 := by
  intro c l h r e
  unfold W155 at e
  split at e
  · exact ⟨P155, by rw [S155_eq]; exact e⟩
  · cases e
/- quietus/arena.header -/
def P156 : Pl := (.n none .z (.n none (.n none (.n none (.r [[9, 7, 0]]) (.n none .z (.n none (.r [[18, 16, 0]]) .z))) .z) .z))
def S156 (_ : CV) (a0 : AV) (h : AH) : R :=
pInt .geq a0 (.int .u64 (.ofNat 1)) fun v0 =>
joinC (α := AV × AV × AV × Unit → AH → R) (fun s1 h2 =>
pPick s1.2.1 s1.1 (.bool false) fun v4 =>
pCond v4 (
pConvI .i64 s1.2.2.1 fun v5 =>
some ((.tup [v5, (.bool false)]), h2)) (
pInt .geq s1.2.2.1 (.int .u64 (.ofNat 9)) fun v6 =>
joinC (α := AV × AV × AV × Unit → AH → R) (fun s7 h8 =>
pPick s7.2.1 s7.1 (.bool false) fun v10 =>
pCond v10 (
pInt .sub s7.2.2.1 (.int .u64 (.ofNat 8)) fun v11 =>
pConvI .i64 v11 fun v12 =>
some ((.tup [v12, (.bool true)]), h8)) (
some ((.tup [(.int .i64 (.ofNat 0)), (.bool false)]), h8))) fun j9 =>
pWant v6 true (
pInt .leq s1.2.2.1 (.int .u64 (.ofNat 12)) fun v13 =>
j9 (v13, v6, s1.2.2.1, ()) h2) (
j9 (.undef, v6, s1.2.2.1, ()) h2))) fun j3 =>
pWant v0 true (
pInt .leq a0 (.int .u64 (.ofNat 4)) fun v14 =>
j3 (v14, v0, a0, ()) h) (
j3 (.undef, v0, a0, ()) h)
theorem S156_eq (c : CV) (a0 : AV) (h : AH) : enterK Tryz.prog NN P156 c 156 [a0] h = S156 c a0 h := by kernel_rfl
def W156 (c : CV) (l : List AV) (h : AH) : R := match l with | [a0] => S156 c a0 h | _ => none
theorem W156_ok : WOk Tryz.prog 156 W156 := by
  intro c l h r e
  unfold W156 at e
  split at e
  · exact ⟨P156, by rw [S156_eq]; exact e⟩
  · cases e
/- (*quietus/view.View).is -/
def P157 : Pl := (.n none .z (.n none (.r [[14, 7]]) .z))
def S157 (_ : CV) (a0 a1 : AV) (h : AH) : R :=
pInt .geq a1 (.int .i64 (.ofNat 1)) fun v0 =>
joinC (α := AV × AV × Unit → AH → R) (fun s1 h2 =>
pPick s1.2.1 s1.1 (.bool false) fun v4 =>
some (v4, h2)) fun j3 =>
pWant v0 true (
pNil a0 fun v5 =>
pFieldA v5 0 fun v6 =>
pLoad1 h v6 fun v7 =>
pLenS v7 fun v8 =>
pInt .lss a1 v8 fun v9 =>
j3 (v9, v0, ()) h) (
j3 (.undef, v0, ()) h)
theorem S157_eq (c : CV) (a0 a1 : AV) (h : AH) : enterK Tryz.prog NN P157 c 157 [a0, a1] h = S157 c a0 a1 h := by kernel_rfl
def W157 (c : CV) (l : List AV) (h : AH) : R := match l with | [a0, a1] => S157 c a0 a1 h | _ => none
theorem W157_ok : WOk Tryz.prog 157 W157 := by
  intro c l h r e
  unfold W157 at e
  split at e
  · exact ⟨P157, by rw [S157_eq]; exact e⟩
  · cases e
/- (*quietus/levels.Levels).Get -/
def P158 : Pl := (.n none .z (.n none (.n none .z (.n none (.n (some [5, 4, 3]) .z .z) .z)) .z))
def S158 (c : CV) (a0 a1 : AV) (h : AH) : R :=
pBox h 3 a1 fun v0 h1 =>
pBox h1 22 (.int .u64 (.ofNat 0)) fun v2 h3 =>
pBox h3 4 (.bool false) fun v4 h5 =>
pNil a0 fun v6 =>
pFieldA v6 1 fun v7 =>
pLoad1 h5 v7 fun v8 =>
pCall c (.fn 124 [] []) [v8] h5 fun v9 h10 =>
pCallF c v9 [.yield (h10.new .dfd).nx] ((h10.new .dfd).new (.loop .ready none 158 [1, 0, 1, 0] [5, 4, 3] [v4, v2, v0] h10.nx)) fun _ h11 =>
pEndLoop h11 (h10.new .dfd).nx fun p13 h12 =>
pNone p13 (
pStore h12 v2 (.int .u64 (.ofNat 0)) 1 fun h14 =>
pStore h14 v4 (.bool false) 1 fun h15 =>
pLeave (h10.nx :: []) h15 fun h16 =>
pLoad1 h16 v2 fun v17 =>
pLoad1 h16 v4 fun v18 =>
some ((.tup [v17, v18]), h16)) <|
pIs p13 .ret (
pLeave (h10.nx :: []) h12 fun h19 =>
pLoad1 h19 v2 fun v20 =>
pLoad1 h19 v4 fun v21 =>
some ((.tup [v20, v21]), h19)) <|
none
theorem S158_eq (c : CV) (a0 a1 : AV) (h : AH) : enterK Tryz.prog NN P158 c 158 [a0, a1] h = S158 c a0 a1 h := by kernel_rfl
def W158 (c : CV) (l : List AV) (h : AH) : R := match l with | [a0, a1] => S158 c a0 a1 h | _ => none
theorem W158_ok : WOk Tryz.prog 158 W158 := by
  intro c l h r e
  unfold W158 at e
  split at e
  · exact ⟨P158, by rw [S158_eq]; exact e⟩
  · cases e
/- (*quietus/levels.Levels).Take -/
def P159 : Pl := (.n none .z (.n none .z (.n none .z (.n none (.n none .z (.n none (.n (some [20, 19, 18, 5, 0]) .z .z) .z)) .z))))
def S159 (c : CV) (a0 a1 : AV) (h : AH) : R :=
pCall c (.fn 125 [] []) [(.int .i64 (.ofNat 96))] h fun v0 h1 =>
pCall c (.fn 199 [] []) [a0] h1 fun v2 h3 =>
pNil v2 fun v4 =>
pFieldA v4 0 fun v5 =>
pLoad1 h3 v5 fun v6 =>
pCall c (.fn 127 [] []) [v6] h3 fun v7 h8 =>
pCall c (.fn 126 [] []) [v0, v7] h8 fun _ h10 =>
pLenS a1 fun v11 =>
loopC (σ := AV × AV × AV × AV × AV × Unit) NN (fun i15 s12 h13 d14 =>
pInt .lss s12.1 s12.2.1 fun v16 =>
pCond v16 (
pIdxS s12.2.2.1 s12.1 2 fun v17 =>
pLoadN h13 v17 2 fun v18 =>
pBox h13 133 (.agg [(.int .i64 (.ofNat 0)), (.int .u64 (.ofNat 0))]) fun v19 h20 =>
pStore h20 v19 v18 2 fun h21 =>
pFieldA v19 0 fun v22 =>
pLoad1 h21 v22 fun v23 =>
pFieldA v19 1 fun v24 =>
pLoad1 h21 v24 fun v25 =>
pCall c (.fn 200 [] []) [s12.2.2.2.2.1, v23, v25] h21 fun v26 h27 =>
pInt .neq v26 (.int .i64 (.ofNat 0)) fun v28 =>
pCond v28 (
pCall c (.fn 199 [] []) [s12.2.2.2.2.1] h27 fun v29 h30 =>
pNil v29 fun v31 =>
pFieldA v31 0 fun v32 =>
pStore h30 v32 s12.2.2.2.1 1 fun h33 =>
pLeave d14 h33 fun h34 =>
some (v26, h34)) (
pInt .add s12.1 (.int .i64 (.ofNat 1)) fun v35 =>
i15 (v35, s12.2.1, s12.2.2.1, s12.2.2.2.1, s12.2.2.2.2.1, ()) h27 d14)) (
pLeave d14 h13 fun h36 =>
some ((.int .i64 (.ofNat 0)), h36))) ((.int .i64 (.ofNat 0)), v11, a1, v0, a0, ()) h10 []
theorem S159_eq (c : CV) (a0 a1 : AV) (h : AH) : enterK Tryz.prog NN P159 c 159 [a0, a1] h = S159 c a0 a1 h := by kernel_rfl
def W159 (c : CV) (l : List AV) (h : AH) : R := match l with | [a0, a1] => S159 c a0 a1 h | _ => none
theorem W159_ok : WOk Tryz.prog 159 W159 := by
  intro c l h r e
  unfold W159 at e
  split at e
  · exact ⟨P159, by rw [S159_eq]; exact e⟩
  · cases e
/- slices.Backward[[]*quietus/levels.level,*quietus/levels.level]$1 -/
def P160 : Pl := (.n none .z (.n none (.n (some [3, 1, 0]) .z .z) .z))
def S160 (c : CV) (a0 a1 : AV) (h : AH) : R :=
pLoad1 h a1 fun v0 =>
pLenS v0 fun v1 =>
pInt .sub v1 (.int .i64 (.ofNat 1)) fun v2 =>
loopC (σ := AV × AV × AV × Unit) NN (fun i6 s3 h4 d5 =>
pInt .geq s3.1 (.int .i64 (.ofNat 0)) fun v7 =>
pCond v7 (
pLoad1 h4 s3.2.1 fun v8 =>
pIdxS v8 s3.1 1 fun v9 =>
pLoad1 h4 v9 fun v10 =>
pCall c s3.2.2.1 [s3.1, v10] h4 fun v11 h12 =>
pUn .not v11 fun v13 =>
pCond v13 (
pLeave d5 h12 fun h14 =>
some ((.tup []), h14)) (
pInt .sub s3.1 (.int .i64 (.ofNat 1)) fun v15 =>
i6 (v15, s3.2.1, s3.2.2.1, ()) h12 d5)) (
pLeave d5 h4 fun h16 =>
some ((.tup []), h16))) (v2, a1, a0, ()) h []
theorem S160_eq (c : CV) (a0 a1 : AV) (h : AH) : enterK Tryz.prog NN P160 c 160 [a0, a1] h = S160 c a0 a1 h := by kernel_rfl
def W160 (c : CV) (l : List AV) (h : AH) : R := match l with | [a0, a1] => S160 c a0 a1 h | _ => none
theorem W160_ok : WOk Tryz.prog 160 W160 := by
  intro c l h r e
  unfold W160 at e
  split at e
  · exact ⟨P160, by rw [S160_eq]; exact e⟩
  · cases e
/- (*quietus/writes.Writes).Put -/
def P161 : Pl := (.n none .z (.n none (.n none (.r [[12, 10, 2, 1, 0]]) .z) .z))
def S161 (c : CV) (a0 a1 a2 : AV) (h : AH) : R :=
pInt .lss a1 (.int .i64 (.ofNat 1)) fun v0 =>
joinC (α := AV × AV × AV × AV × AV × Unit → AH → R) (fun s1 h2 =>
pPick s1.2.1 (.bool true) s1.1 fun v4 =>
pCond v4 (
some ((.int .i64 (.ofNat 2)), h2)) (
pCall c (.fn 201 [] []) [s1.2.2.2.2.1, s1.2.2.2.1] h2 fun v5 h6 =>
pInt .geq v5 (.int .i64 (.ofNat 0)) fun v7 =>
pCond v7 (
pNil s1.2.2.2.2.1 fun v8 =>
pFieldA v8 1 fun v9 =>
pLoad1 h6 v9 fun v10 =>
pIdxS v10 v5 2 fun v11 =>
pFieldA v11 1 fun v12 =>
pStore h6 v12 s1.2.2.1 1 fun h13 =>
some ((.int .i64 (.ofNat 0)), h13)) (
pNil s1.2.2.2.2.1 fun v14 =>
pFieldA v14 1 fun v15 =>
pLoad1 h6 v15 fun v16 =>
pLenS v16 fun v17 =>
pNil s1.2.2.2.2.1 fun v18 =>
pFieldA v18 0 fun v19 =>
pLoad1 h6 v19 fun v20 =>
pInt .geq v17 v20 fun v21 =>
pCond v21 (
some ((.int .i64 (.ofNat 5)), h6)) (
pNil s1.2.2.2.2.1 fun v22 =>
pFieldA v22 1 fun v23 =>
pLoad1 h6 v23 fun v24 =>
pBuild [(.int .i64 (.ofNat 0)), (.int .u64 (.ofNat 0))] [(0, 1, s1.2.2.2.1), (1, 1, s1.2.2.1)] fun v25 =>
pBuildS h6 133 [(.int .i64 (.ofNat 0)), (.int .u64 (.ofNat 0))] 1 [(0, 2, v25)] fun v26 h27 =>
pAppend h27 133 2 v24 v26 fun v28 h29 =>
pNil s1.2.2.2.2.1 fun v30 =>
pFieldA v30 1 fun v31 =>
pStore h29 v31 v28 1 fun h32 =>
some ((.int .i64 (.ofNat 0)), h32))))) fun j3 =>
pWant v0 false (
pInt .geq a1 (.int .i64 (.ofNat 256)) fun v33 =>
j3 (v33, v0, a2, a1, a0, ()) h) (
j3 (.undef, v0, a2, a1, a0, ()) h)
theorem S161_eq (c : CV) (a0 a1 a2 : AV) (h : AH) : enterK Tryz.prog NN P161 c 161 [a0, a1, a2] h = S161 c a0 a1 a2 h := by kernel_rfl
def W161 (c : CV) (l : List AV) (h : AH) : R := match l with | [a0, a1, a2] => S161 c a0 a1 a2 h | _ => none
theorem W161_ok : WOk Tryz.prog 161 W161 := by
  intro c l h r e
  unfold W161 at e
  split at e
  · exact ⟨P161, by rw [S161_eq]; exact e⟩
  · cases e
/- slices.pdqsortOrdered[int] -/
def P162 : Pl := (.n none .z (.n none .z (.n none (.n (some [9, 8, 3, 2, 1, 0]) (.n (some [9, 8, 3, 2, 1, 0]) (.n none .z (.n none .z (.n none .z (.n (some [10, 9, 8, 3, 2, 1, 0]) .z (.n none .z (.n (some [12, 11, 10, 9, 8, 3, 2, 1, 0]) .z (.n (some [11, 10, 9, 8, 3, 2, 1, 0]) (.n none (.r [[63, 62, 12, 11, 10, 9, 8, 3, 2, 1, 0], [67, 65, 11, 10, 9, 8, 3, 2, 1, 0]]) .z) (.n none (.n none (.r [[86, 75, 11, 10, 9, 8, 3, 2, 1, 0]]) .z) .z)))))))) .z) .z) .z)))
def S162 (c : CV) (a0 a1 a2 a3 : AV) (h : AH) : R :=
loopC (σ := AV × AV × AV × AV × AV × AV × Unit) NN (fun i3 s0 h1 d2 =>
joinC (α := AV × AV × AV × AV × AV × AV × Unit → AH → List Nat → R) (fun s4 h5 d6 =>
i3 (s4.1, s4.2.1, s4.2.2.1, s4.2.2.2.1, s4.2.2.2.2.1, s4.2.2.2.2.2.1, ()) h5 d6) fun j7 =>
pInt .sub s0.2.2.2.1 s0.2.2.2.2.1 fun v8 =>
pInt .leq v8 (.int .i64 (.ofNat 12)) fun v9 =>
pCond v9 (
pCall c (.fn 202 [] []) [s0.2.2.2.2.2.1, s0.2.2.2.2.1, s0.2.2.2.1] h1 fun _ h11 =>
pLeave d2 h11 fun h12 =>
some ((.tup []), h12)) (
pInt .eql s0.2.2.1 (.int .i64 (.ofNat 0)) fun v13 =>
pCond v13 (
pCall c (.fn 203 [] []) [s0.2.2.2.2.2.1, s0.2.2.2.2.1, s0.2.2.2.1] h1 fun _ h15 =>
pLeave d2 h15 fun h16 =>
some ((.tup []), h16)) (
joinC (α := AV × AV × AV × AV × AV × AV × AV × Unit → AH → List Nat → R) (fun s17 h18 d19 =>
pCall c (.fn 205 [] []) [s17.2.2.2.2.2.2.1, s17.2.2.2.2.2.1, s17.2.2.2.2.1] h18 fun v21 h22 =>
pExtract v21 0 fun v23 =>
pExtract v21 1 fun v24 =>
joinC (α := AV × AV × AV × AV × AV × AV × AV × AV × AV × Unit → AH → List Nat → R) (fun s25 h26 d27 =>
joinC (α := AV × AV × AV × AV × AV × AV × AV × AV × Unit → AH → List Nat → R) (fun s29 h30 d31 =>
pInt .gtr s29.2.2.2.2.2.2.1 (.int .i64 (.ofNat 0)) fun v33 =>
joinC (α := AV × AV × AV × AV × AV × AV × AV × AV × AV × AV × Unit → AH → R) (fun s34 h35 =>
pPick s34.2.1 s34.1 (.bool false) fun v37 =>
pCond v37 (
pCall c (.fn 209 [] []) [s34.2.2.2.2.2.2.2.2.2.1, s34.2.2.2.2.2.2.2.2.1, s34.2.2.2.2.2.2.2.1, s34.2.2.1] h35 fun v38 h39 =>
j7 (s34.2.2.2.2.1, s34.2.2.2.2.2.1, s34.2.2.2.2.2.2.1, s34.2.2.2.2.2.2.2.1, v38, s34.2.2.2.2.2.2.2.2.2.1, ()) h39 d31) (
pCall c (.fn 210 [] []) [s34.2.2.2.2.2.2.2.2.2.1, s34.2.2.2.2.2.2.2.2.1, s34.2.2.2.2.2.2.2.1, s34.2.2.1] h35 fun v40 h41 =>
pExtract v40 0 fun v42 =>
pExtract v40 1 fun v43 =>
pInt .sub v42 s34.2.2.2.2.2.2.2.2.1 fun v44 =>
pInt .sub s34.2.2.2.2.2.2.2.1 v42 fun v45 =>
pInt .quo s34.2.2.2.1 (.int .i64 (.ofNat 8)) fun v46 =>
pInt .lss v44 v45 fun v47 =>
pCond v47 (
pInt .geq v44 v46 fun v48 =>
pCall c (.fn 162 [] []) [s34.2.2.2.2.2.2.2.2.2.1, s34.2.2.2.2.2.2.2.2.1, v42, s34.2.2.2.2.2.2.1] h41 fun _ h50 =>
pInt .add v42 (.int .i64 (.ofNat 1)) fun v51 =>
j7 (v43, v48, s34.2.2.2.2.2.2.1, s34.2.2.2.2.2.2.2.1, v51, s34.2.2.2.2.2.2.2.2.2.1, ()) h50 d31) (
pInt .geq v45 v46 fun v52 =>
pInt .add v42 (.int .i64 (.ofNat 1)) fun v53 =>
pCall c (.fn 162 [] []) [s34.2.2.2.2.2.2.2.2.2.1, v53, s34.2.2.2.2.2.2.2.1, s34.2.2.2.2.2.2.1] h41 fun _ h55 =>
j7 (v43, v52, s34.2.2.2.2.2.2.1, v42, s34.2.2.2.2.2.2.2.2.1, s34.2.2.2.2.2.2.2.2.2.1, ()) h55 d31))) fun j36 =>
pWant v33 true (
pInt .sub s29.2.2.2.2.2.2.1 (.int .i64 (.ofNat 1)) fun v56 =>
pIdxS s29.2.2.2.2.2.2.2.1 v56 1 fun v57 =>
pLoad1 h30 v57 fun v58 =>
pIdxS s29.2.2.2.2.2.2.2.1 s29.1 1 fun v59 =>
pLoad1 h30 v59 fun v60 =>
pCall c (.fn 208 [] []) [v58, v60] h30 fun v61 h62 =>
pUn .not v61 fun v63 =>
j36 (v63, v33, s29.1, s29.2.1, s29.2.2.1, s29.2.2.2.1, s29.2.2.2.2.1, s29.2.2.2.2.2.1, s29.2.2.2.2.2.2.1, s29.2.2.2.2.2.2.2.1, ()) h62) (
j36 (.undef, v33, s29.1, s29.2.1, s29.2.2.1, s29.2.2.2.1, s29.2.2.2.2.1, s29.2.2.2.2.2.1, s29.2.2.2.2.2.2.1, s29.2.2.2.2.2.2.2.1, ()) h30)) fun j32 =>
joinC (α := AV × AV × AV × AV × AV × AV × AV × AV × AV × AV × AV × Unit → AH → R) (fun s64 h65 =>
pPick s64.2.1 s64.1 (.bool false) fun v67 =>
joinC (α := AV × AV × AV × AV × AV × AV × AV × AV × AV × AV × Unit → AH → R) (fun s68 h69 =>
pPick s68.2.1 s68.1 (.bool false) fun v71 =>
pCond v71 (
pCall c (.fn 207 [] []) [s68.2.2.2.2.2.2.2.2.2.1, s68.2.2.2.2.2.2.2.2.1, s68.2.2.2.2.2.2.2.1] h69 fun v72 h73 =>
pCond v72 (
pLeave d27 h73 fun h74 =>
some ((.tup []), h74)) (
j32 (s68.2.2.1, s68.2.2.2.1, s68.2.2.2.2.1, s68.2.2.2.2.2.1, s68.2.2.2.2.2.2.1, s68.2.2.2.2.2.2.2.1, s68.2.2.2.2.2.2.2.2.1, s68.2.2.2.2.2.2.2.2.2.1, ()) h73 d27)) (
j32 (s68.2.2.1, s68.2.2.2.1, s68.2.2.2.2.1, s68.2.2.2.2.2.1, s68.2.2.2.2.2.2.1, s68.2.2.2.2.2.2.2.1, s68.2.2.2.2.2.2.2.2.1, s68.2.2.2.2.2.2.2.2.2.1, ()) h69 d27)) fun j70 =>
pWant v67 true (
pInt .eql s64.2.2.1 (.int .i64 (.ofNat 1)) fun v75 =>
j70 (v75, v67, s64.2.2.2.1, s64.2.2.2.2.1, s64.2.2.2.2.2.1, s64.2.2.2.2.2.2.1, s64.2.2.2.2.2.2.2.1, s64.2.2.2.2.2.2.2.2.1, s64.2.2.2.2.2.2.2.2.2.1, s64.2.2.2.2.2.2.2.2.2.2.1, ()) h65) (
j70 (.undef, v67, s64.2.2.2.1, s64.2.2.2.2.1, s64.2.2.2.2.2.1, s64.2.2.2.2.2.2.1, s64.2.2.2.2.2.2.2.1, s64.2.2.2.2.2.2.2.2.1, s64.2.2.2.2.2.2.2.2.2.1, s64.2.2.2.2.2.2.2.2.2.2.1, ()) h65)) fun j66 =>
pWant s25.2.2.2.2.1 true (
j66 (s25.2.2.2.1, s25.2.2.2.2.1, s25.1, s25.2.1, s25.2.2.1, s25.2.2.2.1, s25.2.2.2.2.1, s25.2.2.2.2.2.1, s25.2.2.2.2.2.2.1, s25.2.2.2.2.2.2.2.1, s25.2.2.2.2.2.2.2.2.1, ()) h26) (
j66 (.undef, s25.2.2.2.2.1, s25.1, s25.2.1, s25.2.2.1, s25.2.2.2.1, s25.2.2.2.2.1, s25.2.2.2.2.2.1, s25.2.2.2.2.2.2.1, s25.2.2.2.2.2.2.2.1, s25.2.2.2.2.2.2.2.2.1, ()) h26)) fun j28 =>
pInt .eql v24 (.int .i64 (.ofNat 2)) fun v76 =>
pCond v76 (
pCall c (.fn 206 [] []) [s17.2.2.2.2.2.2.1, s17.2.2.2.2.2.1, s17.2.2.2.2.1] h22 fun _ h78 =>
pInt .sub s17.2.2.2.2.1 (.int .i64 (.ofNat 1)) fun v79 =>
pInt .sub v23 s17.2.2.2.2.2.1 fun v80 =>
pInt .sub v79 v80 fun v81 =>
j28 ((.int .i64 (.ofNat 1)), v81, s17.1, s17.2.1, s17.2.2.1, s17.2.2.2.1, s17.2.2.2.2.1, s17.2.2.2.2.2.1, s17.2.2.2.2.2.2.1, ()) h78 d19) (
j28 (v24, v23, s17.1, s17.2.1, s17.2.2.1, s17.2.2.2.1, s17.2.2.2.2.1, s17.2.2.2.2.2.1, s17.2.2.2.2.2.2.1, ()) h22 d19)) fun j20 =>
pUn .not s0.2.1 fun v82 =>
pCond v82 (
pCall c (.fn 204 [] []) [s0.2.2.2.2.2.1, s0.2.2.2.2.1, s0.2.2.2.1] h1 fun _ h84 =>
pInt .sub s0.2.2.1 (.int .i64 (.ofNat 1)) fun v85 =>
j20 (v8, s0.1, s0.2.1, v85, s0.2.2.2.1, s0.2.2.2.2.1, s0.2.2.2.2.2.1, ()) h84 d2) (
j20 (v8, s0.1, s0.2.1, s0.2.2.1, s0.2.2.2.1, s0.2.2.2.2.1, s0.2.2.2.2.2.1, ()) h1 d2)))) ((.bool true), (.bool true), a3, a2, a1, a0, ()) h []
theorem S162_eq (c : CV) (a0 a1 a2 a3 : AV) (h : AH) : enterK Tryz.prog NN P162 c 162 [a0, a1, a2, a3] h = S162 c a0 a1 a2 a3 h := by kernel_rfl
def W162 (c : CV) (l : List AV) (h : AH) : R := match l with | [a0, a1, a2, a3] => S162 c a0 a1 a2 a3 h | _ => none
theorem W162_ok : WOk Tryz.prog 162 W162 := by
  intro c l h r e
  unfold W162 at e
  split at e
  · exact ⟨P162, by rw [S162_eq]; exact e⟩
  · cases e
/- math/bits.Len -/
def P163 : Pl := .z
def S163 (c : CV) (a0 : AV) (h : AH) : R :=
pCond (.bool false) (
pConvI .u32 a0 fun v0 =>
pCall c (.fn 211 [] []) [v0] h fun v1 h2 =>
some (v1, h2)) (
pCall c (.fn 212 [] []) [a0] h fun v3 h4 =>
some (v3, h4))
theorem S163_eq (c : CV) (a0 : AV) (h : AH) : enterK Tryz.prog NN P163 c 163 [a0] h = S163 c a0 h := by kernel_rfl
def W163 (c : CV) (l : List AV) (h : AH) : R := match l with | [a0] => S163 c a0 h | _ => none
theorem W163_ok : WOk Tryz.prog 163 W163 := by
  intro c l h r e
  unfold W163 at e
  split at e
  · exact ⟨P163, by rw [S163_eq]; exact e⟩
  · cases e
/- (*quietus/reads.Reads).Get -/
def P164 : Pl := (.n none .z (.n none (.n none .z (.n none (.n (some [13, 12, 11, 1]) .z .z) .z)) .z))
def S164 (_ : CV) (a0 a1 : AV) (h : AH) : R :=
pNil a0 fun v0 =>
pFieldA v0 1 fun v1 =>
pLoad1 h v1 fun v2 =>
pLenS v2 fun v3 =>
loopC (σ := AV × AV × AV × AV × Unit) NN (fun i7 s4 h5 d6 =>
pInt .lss s4.1 s4.2.1 fun v8 =>
pCond v8 (
pIdxS s4.2.2.1 s4.1 2 fun v9 =>
pLoadN h5 v9 2 fun v10 =>
pBox h5 168 (.agg [(.int .i64 (.ofNat 0)), (.int .u64 (.ofNat 0))]) fun v11 h12 =>
pStore h12 v11 v10 2 fun h13 =>
pFieldA v11 0 fun v14 =>
pLoad1 h13 v14 fun v15 =>
pInt .eql v15 s4.2.2.2.1 fun v16 =>
pCond v16 (
pFieldA v11 1 fun v17 =>
pLoad1 h13 v17 fun v18 =>
pLeave d6 h13 fun h19 =>
some ((.tup [v18, (.bool true)]), h19)) (
pInt .add s4.1 (.int .i64 (.ofNat 1)) fun v20 =>
i7 (v20, s4.2.1, s4.2.2.1, s4.2.2.2.1, ()) h13 d6)) (
pLeave d6 h5 fun h21 =>
some ((.tup [(.int .u64 (.ofNat 0)), (.bool false)]), h21))) ((.int .i64 (.ofNat 0)), v3, v2, a1, ()) h []
theorem S164_eq (c : CV) (a0 a1 : AV) (h : AH) : enterK Tryz.prog NN P164 c 164 [a0, a1] h = S164 c a0 a1 h := by kernel_rfl
def W164 (c : CV) (l : List AV) (h : AH) : R := match l with | [a0, a1] => S164 c a0 a1 h | _ => none
theorem W164_ok : WOk Tryz.prog 164 W164 := by
  intro c l h r e
  unfold W164 at e
  split at e
  · exact ⟨P164, by rw [S164_eq]; exact e⟩
  · cases e
/- internal/strconv.FormatUint -/
def P165 : Pl := .z
def S165 (c : CV) (a0 a1 : AV) (h : AH) : R :=
pInt .eql a1 (.int .i64 (.ofNat 10)) fun v0 =>
pCond v0 (
pInt .lss a0 (.int .u64 (.ofNat 100)) fun v1 =>
pCond v1 (
pConvI .i64 a0 fun v2 =>
pCall c (.fn 213 [] []) [v2] h fun v3 h4 =>
some (v3, h4)) (
pBox h 279 (.agg [(.int .u8 (.ofNat 0)), (.int .u8 (.ofNat 0)), (.int .u8 (.ofNat 0)), (.int .u8 (.ofNat 0)), (.int .u8 (.ofNat 0)), (.int .u8 (.ofNat 0)), (.int .u8 (.ofNat 0)), (.int .u8 (.ofNat 0)), (.int .u8 (.ofNat 0)), (.int .u8 (.ofNat 0)), (.int .u8 (.ofNat 0)), (.int .u8 (.ofNat 0)), (.int .u8 (.ofNat 0)), (.int .u8 (.ofNat 0)), (.int .u8 (.ofNat 0)), (.int .u8 (.ofNat 0)), (.int .u8 (.ofNat 0)), (.int .u8 (.ofNat 0)), (.int .u8 (.ofNat 0)), (.int .u8 (.ofNat 0)), (.int .u8 (.ofNat 0)), (.int .u8 (.ofNat 0)), (.int .u8 (.ofNat 0)), (.int .u8 (.ofNat 0))]) fun v5 h6 =>
pCall c (.fn 214 [] []) [a0] h6 fun v7 h8 =>
pSliceP 24 1 v5 none (some v7) fun v9 =>
pCall c (.fn 215 [] []) [v9, a0] h8 fun _ h11 =>
pSliceP 24 1 v5 none (some v7) fun v12 =>
pB2S h11 v12 fun v13 =>
some (v13, h11))) (
pCall c (.fn 216 [] []) [.nils, a0, a1, (.bool false), (.bool false)] h fun v14 h15 =>
pExtract v14 0 fun _ =>
pExtract v14 1 fun v17 =>
some (v17, h15))
theorem S165_eq (c : CV) (a0 a1 : AV) (h : AH) : enterK Tryz.prog NN P165 c 165 [a0, a1] h = S165 c a0 a1 h := by kernel_rfl
def W165 (c : CV) (l : List AV) (h : AH) : R := match l with | [a0, a1] => S165 c a0 a1 h | _ => none
theorem W165_ok : WOk Tryz.prog 165 W165 := by
  intro c l h r e
  unfold W165 at e
  split at e
  · exact ⟨P165, by rw [S165_eq]; exact e⟩
  · cases e
/- (*strings.Builder).copyCheck -/
def P166 : Pl := .z
def S166 (_ : CV) (a0 : AV) (h : AH) : R :=
pNil a0 fun v0 =>
pFieldA v0 0 fun v1 =>
pLoad1 h v1 fun v2 =>
pEq .ptr false v2 .nilp fun v3 =>
pCond v3 (
none /- op -/) (
pNil a0 fun v4 =>
pFieldA v4 0 fun v5 =>
pLoad1 h v5 fun v6 =>
pEq .ptr true v6 a0 fun v7 =>
pCond v7 (
none /- code -/) (
some ((.tup []), h)))
theorem S166_eq (c : CV) (a0 : AV) (h : AH) : enterK Tryz.prog NN P166 c 166 [a0] h = S166 c a0 h := by kernel_rfl
def W166 (c : CV) (l : List AV) (h : AH) : R := match l with | [a0] => S166 c a0 h | _ => none
theorem W166_ok : WOk Tryz.prog 166 W166 := by
  intro c l h r e
  unfold W166 at e
  split at e
  · exact ⟨P166, by rw [S166_eq]; exact e⟩
  · cases e
/- (*strings.Builder).grow -/
def P167 : Pl := (.n none (.r [[4, 0]]) .z)
def S167 (_ : CV) (a0 _ : AV) (h : AH) : R :=
joinC (α := AV × AV × Unit → AH → R) (fun s0 h1 =>
pNil s0.2.1 fun v3 =>
pFieldA v3 1 fun v4 =>
pLoad1 h1 v4 fun v5 =>
pCopy h1 1 s0.1 v5 fun _ h7 =>
pNil s0.2.1 fun v8 =>
pFieldA v8 1 fun v9 =>
pStore h7 v9 s0.1 1 fun h10 =>
some ((.tup []), h10)) fun _ =>
pNil a0 fun v11 =>
pFieldA v11 1 fun v12 =>
pLoad1 h v12 fun _ =>
none /- op -/
theorem S167_eq (c : CV) (a0 a1 : AV) (h : AH) : enterK Tryz.prog NN P167 c 167 [a0, a1] h = S167 c a0 a1 h := by kernel_rfl
def W167 (c : CV) (l : List AV) (h : AH) : R := match l with | [a0, a1] => S167 c a0 a1 h | _ => none
theorem W167_ok : WOk Tryz.prog 167 W167 := by
  intro c l h r e
  unfold W167 at e
  split at e
  · exact ⟨P167, by rw [S167_eq]; exact e⟩
  · cases e
/- quietus/levels.fresh -/
def P168 : Pl := .z
def S168 (c : CV) (h : AH) : R :=
pCall c (.fn 125 [] []) [(.int .i64 (.ofNat 96))] h fun v0 h1 =>
pBuild [.nilp, .nils] [(0, 1, v0)] fun v2 =>
pBox h1 211 v2 fun v3 h4 =>
some (v3, h4)
theorem S168_eq (c : CV) (h : AH) : enterK Tryz.prog NN P168 c 168 [] h = S168 c h := by kernel_rfl
def W168 (c : CV) (l : List AV) (h : AH) : R := match l with | [] => S168 c h | _ => none
theorem W168_ok : WOk Tryz.prog 168 W168 := by
  intro c l h r e
  unfold W168 at e
  split at e
  · exact ⟨P168, by rw [S168_eq]; exact e⟩
  · cases e
/- quietus/code.May -/
def P169 : Pl := (.n none .z (.n none .z (.n none (.r [[21, 17, 5, 4, 1], [27, 23, 5, 1], [33, 29, 1], [39, 35, 1], [42, 39, 35], [43, 35]]) .z)))
def S169 (c : CV) (a0 : AV) (h : AH) : R :=
pBox h 30 a0 fun v0 h1 =>
pFieldA v0 0 fun v2 =>
pLoad1 h1 v2 fun v3 =>
pCall c (.fn 219 [] []) [v3] h1 fun v4 h5 =>
pExtract v4 0 fun v6 =>
pExtract v4 1 fun v7 =>
pExtract v4 2 fun v8 =>
pBox h5 287 (.agg [(.int .i64 (.ofNat 0)), (.int .i64 (.ofNat 0))]) fun v9 h10 =>
pBox h10 287 (.agg [(.int .i64 (.ofNat 0)), (.int .i64 (.ofNat 0))]) fun v11 h12 =>
pBox h12 287 (.agg [(.int .i64 (.ofNat 0)), (.int .i64 (.ofNat 0))]) fun v13 h14 =>
pStore h14 v9 v6 2 fun h15 =>
pStore h15 v11 v7 2 fun h16 =>
pStore h16 v13 v8 2 fun h17 =>
pFieldA v0 0 fun v18 =>
pLoad1 h17 v18 fun v19 =>
pCall c (.fn 220 [] []) [v19] h17 fun v20 h21 =>
pStr .neq v20 (.str []) fun v22 =>
joinC (α := AV × AV × AV × AV × AV × Unit → AH → R) (fun s23 h24 =>
pPick s23.2.1 s23.1 (.bool false) fun v26 =>
joinC (α := AV × AV × AV × AV × Unit → AH → R) (fun s27 h28 =>
pPick s27.2.1 s27.1 (.bool false) fun v30 =>
joinC (α := AV × AV × AV × Unit → AH → R) (fun s31 h32 =>
pPick s31.2.1 s31.1 (.bool false) fun v34 =>
joinC (α := AV × AV × AV × Unit → AH → R) (fun s35 h36 =>
joinC (α := AV × AV × AV × Unit → AH → R) (fun s38 h39 =>
joinC (α := AV × AV × Unit → AH → R) (fun s41 h42 =>
pPick s41.2.1 s41.1 (.bool false) fun v44 =>
some (v44, h42)) fun j43 =>
pWant s38.2.2.1 true (
pPick s38.2.1 (.bool true) s38.1 fun v45 =>
j43 (v45, s38.2.2.1, ()) h39) (
j43 (.undef, s38.2.2.1, ()) h39)) fun j40 =>
pWant s35.1 false (
pFieldA s35.2.2.1 0 fun v46 =>
pLoad1 h36 v46 fun v47 =>
pInt .eql v47 (.int .i64 (.ofNat 1)) fun v48 =>
j40 (v48, s35.1, s35.2.1, ()) h36) (
j40 (.undef, s35.1, s35.2.1, ()) h36)) fun j37 =>
pWant v34 true (
pFieldA s31.2.2.1 4 fun v49 =>
pLoad1 h32 v49 fun v50 =>
pInt .eql v50 (.int .u64 (.ofNat 0)) fun v51 =>
j37 (v51, v34, s31.2.2.1, ()) h32) (
j37 (.undef, v34, s31.2.2.1, ()) h32)) fun j33 =>
pWant v30 true (
pLoadN h28 s27.2.2.1 2 fun v52 =>
pFieldA s27.2.2.2.1 3 fun v53 =>
pLoad1 h28 v53 fun v54 =>
pCall c (.fn 221 [] []) [v52, v54] h28 fun v55 h56 =>
j33 (v55, v30, s27.2.2.2.1, ()) h56) (
j33 (.undef, v30, s27.2.2.2.1, ()) h28)) fun j29 =>
pWant v26 true (
pLoadN h24 s23.2.2.2.1 2 fun v57 =>
pFieldA s23.2.2.2.2.1 2 fun v58 =>
pLoad1 h24 v58 fun v59 =>
pCall c (.fn 221 [] []) [v57, v59] h24 fun v60 h61 =>
j29 (v60, v26, s23.2.2.1, s23.2.2.2.2.1, ()) h61) (
j29 (.undef, v26, s23.2.2.1, s23.2.2.2.2.1, ()) h24)) fun j25 =>
pWant v22 true (
pLoadN h21 v9 2 fun v62 =>
pFieldA v0 1 fun v63 =>
pLoad1 h21 v63 fun v64 =>
pCall c (.fn 221 [] []) [v62, v64] h21 fun v65 h66 =>
j25 (v65, v22, v13, v11, v0, ()) h66) (
j25 (.undef, v22, v13, v11, v0, ()) h21)
theorem S169_eq (c : CV) (a0 : AV) (h : AH) : enterK Tryz.prog NN P169 c 169 [a0] h = S169 c a0 h := by kernel_rfl
def W169 (c : CV) (l : List AV) (h : AH) : R := match l with | [a0] => S169 c a0 h | _ => none
theorem W169_ok : WOk Tryz.prog 169 W169 := by
  intro c l h r e
  unfold W169 at e
  split at e
  · exact ⟨P169, by rw [S169_eq]; exact e⟩
  · cases e
/- (quietus/check.stack).op -/
def P170 : Pl := (.n none .z (.n none .z (.n none (.r [[4]]) .z)))
def S170 (c : CV) (a0 a1 : AV) (h : AH) : R :=
pBox h 33 a1 fun v0 h1 =>
pLenS a0 fun v2 =>
pInt .eql v2 (.int .i64 (.ofNat 0)) fun v3 =>
pCond v3 (
some ((.int .i64 (.ofNat 0)), h1)) (
joinC (α := AV × Unit → AH → R) (fun s4 h5 =>
some (s4.1, h5)) fun j6 =>
pFieldA v0 0 fun v7 =>
pLoad1 h1 v7 fun v8 =>
pCall c (.fn 146 [] []) [a0] h1 fun v9 h10 =>
pIdxS v8 v9 5 fun v11 =>
pFieldA v11 0 fun v12 =>
pLoad1 h10 v12 fun v13 =>
pChk v7 none v8 h1 h10 h1.nx <|
j6 (v13, ()) h10)
theorem S170_eq (c : CV) (a0 a1 : AV) (h : AH) : enterK Tryz.prog NN P170 c 170 [a0, a1] h = S170 c a0 a1 h := by kernel_rfl
def W170 (c : CV) (l : List AV) (h : AH) : R := match l with | [a0, a1] => S170 c a0 a1 h | _ => none
theorem W170_ok : WOk Tryz.prog 170 W170 := by
  intro c l h r e
  unfold W170 at e
  split at e
  · exact ⟨P170, by rw [S170_eq]; exact e⟩
  · cases e
/- quietus/check.begins -/
def P171 : Pl := (.n none .z (.n none (.r [[7, 5]]) .z))
def S171 (_ : CV) (a0 : AV) (h : AH) : R :=
pInt .eql a0 (.int .i64 (.ofNat 14)) fun v0 =>
joinC (α := AV × AV × Unit → AH → R) (fun s1 h2 =>
pPick s1.2.1 (.bool true) s1.1 fun v4 =>
some (v4, h2)) fun j3 =>
pWant v0 false (
pInt .eql a0 (.int .i64 (.ofNat 17)) fun v5 =>
j3 (v5, v0, ()) h) (
j3 (.undef, v0, ()) h)
theorem S171_eq (c : CV) (a0 : AV) (h : AH) : enterK Tryz.prog NN P171 c 171 [a0] h = S171 c a0 h := by kernel_rfl
def W171 (c : CV) (l : List AV) (h : AH) : R := match l with | [a0] => S171 c a0 h | _ => none
theorem W171_ok : WOk Tryz.prog 171 W171 := by
  intro c l h r e
  unfold W171 at e
  split at e
  · exact ⟨P171, by rw [S171_eq]; exact e⟩
  · cases e
/- quietus/code.Jumps -/
def P172 : Pl := (.n none .z (.n none (.r [[7, 5]]) .z))
def S172 (_ : CV) (a0 : AV) (h : AH) : R :=
pInt .eql a0 (.int .i64 (.ofNat 12)) fun v0 =>
joinC (α := AV × AV × Unit → AH → R) (fun s1 h2 =>
pPick s1.2.1 (.bool true) s1.1 fun v4 =>
some (v4, h2)) fun j3 =>
pWant v0 false (
pInt .eql a0 (.int .i64 (.ofNat 13)) fun v5 =>
j3 (v5, v0, ()) h) (
j3 (.undef, v0, ()) h)
theorem S172_eq (c : CV) (a0 : AV) (h : AH) : enterK Tryz.prog NN P172 c 172 [a0] h = S172 c a0 h := by kernel_rfl
def W172 (c : CV) (l : List AV) (h : AH) : R := match l with | [a0] => S172 c a0 h | _ => none
theorem W172_ok : WOk Tryz.prog 172 W172 := by
  intro c l h r e
  unfold W172 at e
  split at e
  · exact ⟨P172, by rw [S172_eq]; exact e⟩
  · cases e
/- (*quietus/slate.Slate).add -/
def P173 : Pl := .z
def S173 (_ : CV) (a0 a1 : AV) (h : AH) : R :=
pNil a0 fun v0 =>
pFieldA v0 0 fun v1 =>
pLoad1 h v1 fun v2 =>
pLenS v2 fun v3 =>
pInt .geq v3 (.int .i64 (.ofNat 16)) fun v4 =>
pCond v4 (
some ((.bool false), h)) (
pNil a0 fun v5 =>
pFieldA v5 0 fun v6 =>
pLoad1 h v6 fun v7 =>
pBuildS h 20 [.nili] 1 [(0, 1, a1)] fun v8 h9 =>
pAppend h9 20 1 v7 v8 fun v10 h11 =>
pNil a0 fun v12 =>
pFieldA v12 0 fun v13 =>
pStore h11 v13 v10 1 fun h14 =>
some ((.bool true), h14))
theorem S173_eq (c : CV) (a0 a1 : AV) (h : AH) : enterK Tryz.prog NN P173 c 173 [a0, a1] h = S173 c a0 a1 h := by kernel_rfl
def W173 (c : CV) (l : List AV) (h : AH) : R := match l with | [a0, a1] => S173 c a0 a1 h | _ => none
theorem W173_ok : WOk Tryz.prog 173 W173 := by
  intro c l h r e
  unfold W173 at e
  split at e
  · exact ⟨P173, by rw [S173_eq]; exact e⟩
  · cases e
/- (*quietus/interp.Interp).truth -/
def P174 : Pl := .z
def S174 (_ : CV) (a0 a1 : AV) (h : AH) : R :=
pBox h 104 a0 fun v0 h1 =>
pBox h1 30 a1 fun v2 h3 =>
some ((.fn 222 [] [v0, v2]), h3)
theorem S174_eq (c : CV) (a0 a1 : AV) (h : AH) : enterK Tryz.prog NN P174 c 174 [a0, a1] h = S174 c a0 a1 h := by kernel_rfl
def W174 (c : CV) (l : List AV) (h : AH) : R := match l with | [a0, a1] => S174 c a0 a1 h | _ => none
theorem W174_ok : WOk Tryz.prog 174 W174 := by
  intro c l h r e
  unfold W174 at e
  split at e
  · exact ⟨P174, by rw [S174_eq]; exact e⟩
  · cases e
/- quietus/list.Add -/
def P175 : Pl := (.n none .z (.n none .z (.n none .z (.n none (.r [[17, 15, 9]]) .z))))
def S175 (c : CV) (a0 a1 a2 : AV) (h : AH) : R :=
pBox h 3 a1 fun v0 h1 =>
pBox h1 22 a2 fun v2 h3 =>
pBox h3 4 (.bool false) fun v4 h5 =>
pStore h5 v4 (.bool false) 1 fun h6 =>
pLoad1 h6 v0 fun v7 =>
pCall c (.fn 224 [] []) [a0, v7, (.fn 225 [] [v0, v2, v4])] h6 fun v8 h9 =>
pLoad1 h9 v4 fun v10 =>
joinC (α := AV × AV × AV × Unit → AH → R) (fun s11 h12 =>
pPick s11.2.1 s11.1 (.bool false) fun v14 =>
some ((.tup [v14, s11.2.2.1]), h12)) fun j13 =>
pWant v10 true (
pInt .eql v8 (.int .i64 (.ofNat 0)) fun v15 =>
j13 (v15, v10, v8, ()) h9) (
j13 (.undef, v10, v8, ()) h9)
theorem S175_eq (c : CV) (a0 a1 a2 : AV) (h : AH) : enterK Tryz.prog NN P175 c 175 [a0, a1, a2] h = S175 c a0 a1 a2 h := by kernel_rfl
def W175 (c : CV) (l : List AV) (h : AH) : R := match l with | [a0, a1, a2] => S175 c a0 a1 a2 h | _ => none
theorem W175_ok : WOk Tryz.prog 175 W175 := by
  intro c l h r e
  unfold W175 at e
  split at e
  · exact ⟨P175, by rw [S175_eq]; exact e⟩
  · cases e
/- quietus/list.Cut -/
def P176 : Pl := (.n none .z (.n none .z (.n none .z (.n none (.r [[17, 15, 9]]) .z))))
def S176 (c : CV) (a0 a1 a2 : AV) (h : AH) : R :=
pBox h 3 a1 fun v0 h1 =>
pBox h1 22 a2 fun v2 h3 =>
pBox h3 4 (.bool false) fun v4 h5 =>
pStore h5 v4 (.bool false) 1 fun h6 =>
pLoad1 h6 v0 fun v7 =>
pCall c (.fn 224 [] []) [a0, v7, (.fn 232 [] [v0, v2, v4])] h6 fun v8 h9 =>
pLoad1 h9 v4 fun v10 =>
joinC (α := AV × AV × AV × Unit → AH → R) (fun s11 h12 =>
pPick s11.2.1 s11.1 (.bool false) fun v14 =>
some ((.tup [v14, s11.2.2.1]), h12)) fun j13 =>
pWant v10 true (
pInt .eql v8 (.int .i64 (.ofNat 0)) fun v15 =>
j13 (v15, v10, v8, ()) h9) (
j13 (.undef, v10, v8, ()) h9)
theorem S176_eq (c : CV) (a0 a1 a2 : AV) (h : AH) : enterK Tryz.prog NN P176 c 176 [a0, a1, a2] h = S176 c a0 a1 a2 h := by kernel_rfl
def W176 (c : CV) (l : List AV) (h : AH) : R := match l with | [a0, a1, a2] => S176 c a0 a1 a2 h | _ => none
theorem W176_ok : WOk Tryz.prog 176 W176 := by
  intro c l h r e
  unfold W176 at e
  split at e
  · exact ⟨P176, by rw [S176_eq]; exact e⟩
  · cases e
/- quietus/list.Has -/
def P177 : Pl := (.n none .z (.n none .z (.n none .z (.n none (.r [[17, 15, 9]]) .z))))
def S177 (c : CV) (a0 a1 a2 : AV) (h : AH) : R :=
pBox h 3 a1 fun v0 h1 =>
pBox h1 22 a2 fun v2 h3 =>
pBox h3 4 (.bool false) fun v4 h5 =>
pStore h5 v4 (.bool false) 1 fun h6 =>
pLoad1 h6 v0 fun v7 =>
pCall c (.fn 224 [] []) [a0, v7, (.fn 235 [] [v0, v2, v4])] h6 fun v8 h9 =>
pLoad1 h9 v4 fun v10 =>
joinC (α := AV × AV × AV × Unit → AH → R) (fun s11 h12 =>
pPick s11.2.1 s11.1 (.bool false) fun v14 =>
some ((.tup [v14, s11.2.2.1]), h12)) fun j13 =>
pWant v10 true (
pInt .eql v8 (.int .i64 (.ofNat 0)) fun v15 =>
j13 (v15, v10, v8, ()) h9) (
j13 (.undef, v10, v8, ()) h9)
theorem S177_eq (c : CV) (a0 a1 a2 : AV) (h : AH) : enterK Tryz.prog NN P177 c 177 [a0, a1, a2] h = S177 c a0 a1 a2 h := by kernel_rfl
def W177 (c : CV) (l : List AV) (h : AH) : R := match l with | [a0, a1, a2] => S177 c a0 a1 a2 h | _ => none
theorem W177_ok : WOk Tryz.prog 177 W177 := by
  intro c l h r e
  unfold W177 at e
  split at e
  · exact ⟨P177, by rw [S177_eq]; exact e⟩
  · cases e
/- quietus/table.Put -/
def P178 : Pl := (.n none .z (.n none .z (.n none .z (.n none (.r [[19, 17, 11]]) .z))))
def S178 (c : CV) (a0 a1 a2 a3 : AV) (h : AH) : R :=
pBox h 3 a1 fun v0 h1 =>
pBox h1 22 a2 fun v2 h3 =>
pBox h3 22 a3 fun v4 h5 =>
pBox h5 4 (.bool false) fun v6 h7 =>
pStore h7 v6 (.bool false) 1 fun h8 =>
pLoad1 h8 v0 fun v9 =>
pCall c (.fn 224 [] []) [a0, v9, (.fn 236 [] [v0, v2, v4, v6])] h8 fun v10 h11 =>
pLoad1 h11 v6 fun v12 =>
joinC (α := AV × AV × AV × Unit → AH → R) (fun s13 h14 =>
pPick s13.2.1 s13.1 (.bool false) fun v16 =>
some ((.tup [v16, s13.2.2.1]), h14)) fun j15 =>
pWant v12 true (
pInt .eql v10 (.int .i64 (.ofNat 0)) fun v17 =>
j15 (v17, v12, v10, ()) h11) (
j15 (.undef, v12, v10, ()) h11)
theorem S178_eq (c : CV) (a0 a1 a2 a3 : AV) (h : AH) : enterK Tryz.prog NN P178 c 178 [a0, a1, a2, a3] h = S178 c a0 a1 a2 a3 h := by kernel_rfl
def W178 (c : CV) (l : List AV) (h : AH) : R := match l with | [a0, a1, a2, a3] => S178 c a0 a1 a2 a3 h | _ => none
theorem W178_ok : WOk Tryz.prog 178 W178 := by
  intro c l h r e
  unfold W178 at e
  split at e
  · exact ⟨P178, by rw [S178_eq]; exact e⟩
  · cases e
/- (*quietus/interp.Interp).number -/
def P179 : Pl := .z
def S179 (_ : CV) (a0 a1 : AV) (h : AH) : R :=
pBox h 104 a0 fun v0 h1 =>
pBox h1 30 a1 fun v2 h3 =>
some ((.fn 241 [] [v0, v2]), h3)
theorem S179_eq (c : CV) (a0 a1 : AV) (h : AH) : enterK Tryz.prog NN P179 c 179 [a0, a1] h = S179 c a0 a1 h := by kernel_rfl
def W179 (c : CV) (l : List AV) (h : AH) : R := match l with | [a0, a1] => S179 c a0 a1 h | _ => none
theorem W179_ok : WOk Tryz.prog 179 W179 := by
  intro c l h r e
  unfold W179 at e
  split at e
  · exact ⟨P179, by rw [S179_eq]; exact e⟩
  · cases e
/- quietus/table.Get -/
def P180 : Pl := .z
def S180 (c : CV) (a0 a1 a2 : AV) (h : AH) : R :=
pBox h 3 a1 fun v0 h1 =>
pBox h1 22 a2 fun v2 h3 =>
pBox h3 22 (.int .u64 (.ofNat 0)) fun v4 h5 =>
pBox h5 4 (.bool false) fun v6 h7 =>
pStore h7 v4 (.int .u64 (.ofNat 0)) 1 fun h8 =>
pStore h8 v6 (.bool false) 1 fun h9 =>
pLoad1 h9 v0 fun v10 =>
pCall c (.fn 224 [] []) [a0, v10, (.fn 243 [] [v0, v2, v4, v6])] h9 fun v11 h12 =>
pInt .neq v11 (.int .i64 (.ofNat 0)) fun v13 =>
pCond v13 (
some ((.tup [(.int .u64 (.ofNat 0)), (.bool false), v11]), h12)) (
pLoad1 h12 v4 fun v14 =>
pLoad1 h12 v6 fun v15 =>
some ((.tup [v14, v15, (.int .i64 (.ofNat 0))]), h12))
theorem S180_eq (c : CV) (a0 a1 a2 : AV) (h : AH) : enterK Tryz.prog NN P180 c 180 [a0, a1, a2] h = S180 c a0 a1 a2 h := by kernel_rfl
def W180 (c : CV) (l : List AV) (h : AH) : R := match l with | [a0, a1, a2] => S180 c a0 a1 a2 h | _ => none
theorem W180_ok : WOk Tryz.prog 180 W180 := by
  intro c l h r e
  unfold W180 at e
  split at e
  · exact ⟨P180, by rw [S180_eq]; exact e⟩
  · cases e
/- quietus/table.Del -/
def P181 : Pl := (.n none .z (.n none .z (.n none .z (.n none (.r [[17, 15, 9]]) .z))))
def S181 (c : CV) (a0 a1 a2 : AV) (h : AH) : R :=
pBox h 3 a1 fun v0 h1 =>
pBox h1 22 a2 fun v2 h3 =>
pBox h3 4 (.bool false) fun v4 h5 =>
pStore h5 v4 (.bool false) 1 fun h6 =>
pLoad1 h6 v0 fun v7 =>
pCall c (.fn 224 [] []) [a0, v7, (.fn 244 [] [v0, v2, v4])] h6 fun v8 h9 =>
pLoad1 h9 v4 fun v10 =>
joinC (α := AV × AV × AV × Unit → AH → R) (fun s11 h12 =>
pPick s11.2.1 s11.1 (.bool false) fun v14 =>
some ((.tup [v14, s11.2.2.1]), h12)) fun j13 =>
pWant v10 true (
pInt .eql v8 (.int .i64 (.ofNat 0)) fun v15 =>
j13 (v15, v10, v8, ()) h9) (
j13 (.undef, v10, v8, ()) h9)
theorem S181_eq (c : CV) (a0 a1 a2 : AV) (h : AH) : enterK Tryz.prog NN P181 c 181 [a0, a1, a2] h = S181 c a0 a1 a2 h := by kernel_rfl
def W181 (c : CV) (l : List AV) (h : AH) : R := match l with | [a0, a1, a2] => S181 c a0 a1 a2 h | _ => none
theorem W181_ok : WOk Tryz.prog 181 W181 := by
  intro c l h r e
  unfold W181 at e
  split at e
  · exact ⟨P181, by rw [S181_eq]; exact e⟩
  · cases e
/- (*quietus/interp.Interp).push -/
def P182 : Pl := .z
def S182 (c : CV) (a0 a1 a2 : AV) (h : AH) : R :=
pNil a0 fun v0 =>
pFieldA v0 1 fun v1 =>
pLoad1 h v1 fun v2 =>
pCall c (.fn 245 [] []) [v2, a1, a2] h fun v3 h4 =>
pInt .neq v3 (.int .i64 (.ofNat 0)) fun v5 =>
pCond v5 (
some (v3, h4)) (
pNil a0 fun v6 =>
pFieldA v6 14 fun v7 =>
pLoad1 h4 v7 fun v8 =>
pCall c (.fn 242 [] []) [v8] h4 fun v9 h10 =>
pUn .not v9 fun v11 =>
pCond v11 (
some ((.int .i64 (.ofNat 5)), h10)) (
some ((.int .i64 (.ofNat 0)), h10)))
theorem S182_eq (c : CV) (a0 a1 a2 : AV) (h : AH) : enterK Tryz.prog NN P182 c 182 [a0, a1, a2] h = S182 c a0 a1 a2 h := by kernel_rfl
def W182 (c : CV) (l : List AV) (h : AH) : R := match l with | [a0, a1, a2] => S182 c a0 a1 a2 h | _ => none
theorem W182_ok : WOk Tryz.prog 182 W182 := by
  intro c l h r e
  unfold W182 at e
  split at e
  · exact ⟨P182, by rw [S182_eq]; exact e⟩
  · cases e
/- (*quietus/interp.Interp).take -/
def P183 : Pl := (.n none .z (.n none .z (.n none (.n none (.r [[24, 22, 9, 8, 7, 4, 0]]) .z) .z)))
def S183 (c : CV) (a0 a1 a2 : AV) (h : AH) : R :=
pBox h 30 a1 fun v0 h1 =>
pNil a0 fun v2 =>
pFieldA v2 1 fun v3 =>
pLoad1 h1 v3 fun v4 =>
pCall c (.fn 246 [] []) [v4, a2] h1 fun v5 h6 =>
pExtract v5 0 fun v7 =>
pExtract v5 1 fun v8 =>
pExtract v5 2 fun v9 =>
pInt .eql v9 (.int .i64 (.ofNat 0)) fun v10 =>
joinC (α := AV × AV × AV × AV × AV × AV × AV × Unit → AH → R) (fun s11 h12 =>
pPick s11.2.1 s11.1 (.bool false) fun v14 =>
pCond v14 (
pCall c (.fn 197 [] []) [s11.2.2.2.2.2.2.1] h12 fun v15 h16 =>
some (v15, h16)) (
pLoadN h12 s11.2.2.2.2.2.1 5 fun v17 =>
pCall c (.fn 179 [] []) [s11.2.2.2.2.2.2.1, v17] h12 fun v18 h19 =>
pCall c v18 [s11.2.2.2.2.1, s11.2.2.2.1, s11.2.2.1] h19 fun v20 h21 =>
some (v20, h21))) fun j13 =>
pWant v10 true (
pUn .not v8 fun v22 =>
j13 (v22, v10, v9, v8, v7, v0, a0, ()) h6) (
j13 (.undef, v10, v9, v8, v7, v0, a0, ()) h6)
theorem S183_eq (c : CV) (a0 a1 a2 : AV) (h : AH) : enterK Tryz.prog NN P183 c 183 [a0, a1, a2] h = S183 c a0 a1 a2 h := by kernel_rfl
def W183 (c : CV) (l : List AV) (h : AH) : R := match l with | [a0, a1, a2] => S183 c a0 a1 a2 h | _ => none
theorem W183_ok : WOk Tryz.prog 183 W183 := by
  intro c l h r e
  unfold W183 at e
  split at e
  · exact ⟨P183, by rw [S183_eq]; exact e⟩
  · cases e
/- quietus/tree.Put -/
def P184 : Pl := (.n none .z (.n none .z (.n none .z (.n none (.r [[19, 17, 11]]) .z))))
def S184 (c : CV) (a0 a1 a2 a3 : AV) (h : AH) : R :=
pBox h 3 a1 fun v0 h1 =>
pBox h1 22 a2 fun v2 h3 =>
pBox h3 22 a3 fun v4 h5 =>
pBox h5 4 (.bool false) fun v6 h7 =>
pStore h7 v6 (.bool false) 1 fun h8 =>
pLoad1 h8 v0 fun v9 =>
pCall c (.fn 224 [] []) [a0, v9, (.fn 247 [] [v0, v2, v4, v6])] h8 fun v10 h11 =>
pLoad1 h11 v6 fun v12 =>
joinC (α := AV × AV × AV × Unit → AH → R) (fun s13 h14 =>
pPick s13.2.1 s13.1 (.bool false) fun v16 =>
some ((.tup [v16, s13.2.2.1]), h14)) fun j15 =>
pWant v12 true (
pInt .eql v10 (.int .i64 (.ofNat 0)) fun v17 =>
j15 (v17, v12, v10, ()) h11) (
j15 (.undef, v12, v10, ()) h11)
theorem S184_eq (c : CV) (a0 a1 a2 a3 : AV) (h : AH) : enterK Tryz.prog NN P184 c 184 [a0, a1, a2, a3] h = S184 c a0 a1 a2 a3 h := by kernel_rfl
def W184 (c : CV) (l : List AV) (h : AH) : R := match l with | [a0, a1, a2, a3] => S184 c a0 a1 a2 a3 h | _ => none
theorem W184_ok : WOk Tryz.prog 184 W184 := by
  intro c l h r e
  unfold W184 at e
  split at e
  · exact ⟨P184, by rw [S184_eq]; exact e⟩
  · cases e
/- quietus/tree.Get -/
def P185 : Pl := .z
def S185 (c : CV) (a0 a1 a2 : AV) (h : AH) : R :=
pBox h 3 a1 fun v0 h1 =>
pBox h1 22 a2 fun v2 h3 =>
pBox h3 22 (.int .u64 (.ofNat 0)) fun v4 h5 =>
pBox h5 4 (.bool false) fun v6 h7 =>
pStore h7 v4 (.int .u64 (.ofNat 0)) 1 fun h8 =>
pStore h8 v6 (.bool false) 1 fun h9 =>
pLoad1 h9 v0 fun v10 =>
pCall c (.fn 224 [] []) [a0, v10, (.fn 251 [] [v0, v2, v4, v6])] h9 fun v11 h12 =>
pInt .neq v11 (.int .i64 (.ofNat 0)) fun v13 =>
pCond v13 (
some ((.tup [(.int .u64 (.ofNat 0)), (.bool false), v11]), h12)) (
pLoad1 h12 v4 fun v14 =>
pLoad1 h12 v6 fun v15 =>
some ((.tup [v14, v15, (.int .i64 (.ofNat 0))]), h12))
theorem S185_eq (c : CV) (a0 a1 a2 : AV) (h : AH) : enterK Tryz.prog NN P185 c 185 [a0, a1, a2] h = S185 c a0 a1 a2 h := by kernel_rfl
def W185 (c : CV) (l : List AV) (h : AH) : R := match l with | [a0, a1, a2] => S185 c a0 a1 a2 h | _ => none
theorem W185_ok : WOk Tryz.prog 185 W185 := by
  intro c l h r e
  unfold W185 at e
  split at e
  · exact ⟨P185, by rw [S185_eq]; exact e⟩
  · cases e
/- quietus/tree.Del -/
def P186 : Pl := (.n none .z (.n none .z (.n none .z (.n none (.r [[17, 15, 9]]) .z))))
def S186 (c : CV) (a0 a1 a2 : AV) (h : AH) : R :=
pBox h 3 a1 fun v0 h1 =>
pBox h1 22 a2 fun v2 h3 =>
pBox h3 4 (.bool false) fun v4 h5 =>
pStore h5 v4 (.bool false) 1 fun h6 =>
pLoad1 h6 v0 fun v7 =>
pCall c (.fn 224 [] []) [a0, v7, (.fn 252 [] [v0, v2, v4])] h6 fun v8 h9 =>
pLoad1 h9 v4 fun v10 =>
joinC (α := AV × AV × AV × Unit → AH → R) (fun s11 h12 =>
pPick s11.2.1 s11.1 (.bool false) fun v14 =>
some ((.tup [v14, s11.2.2.1]), h12)) fun j13 =>
pWant v10 true (
pInt .eql v8 (.int .i64 (.ofNat 0)) fun v15 =>
j13 (v15, v10, v8, ()) h9) (
j13 (.undef, v10, v8, ()) h9)
theorem S186_eq (c : CV) (a0 a1 a2 : AV) (h : AH) : enterK Tryz.prog NN P186 c 186 [a0, a1, a2] h = S186 c a0 a1 a2 h := by kernel_rfl
def W186 (c : CV) (l : List AV) (h : AH) : R := match l with | [a0, a1, a2] => S186 c a0 a1 a2 h | _ => none
theorem W186_ok : WOk Tryz.prog 186 W186 := by
  intro c l h r e
  unfold W186 at e
  split at e
  · exact ⟨P186, by rw [S186_eq]; exact e⟩
  · cases e
/- quietus/tree.Range -/
def P187 : Pl := .z
def S187 (c : CV) (a0 a1 a2 a3 : AV) (h : AH) : R :=
pBox h 3 a1 fun v0 h1 =>
pBox h1 22 a2 fun v2 h3 =>
pBox h3 22 a3 fun v4 h5 =>
pBox h5 257 .nils fun v6 h7 =>
pLoad1 h7 v0 fun v8 =>
pCall c (.fn 224 [] []) [a0, v8, (.fn 254 [] [v0, v2, v4, v6])] h7 fun v9 h10 =>
pInt .neq v9 (.int .i64 (.ofNat 0)) fun v11 =>
pCond v11 (
some ((.tup [.nils, v9]), h10)) (
pLoad1 h10 v6 fun v12 =>
some ((.tup [v12, (.int .i64 (.ofNat 0))]), h10))
theorem S187_eq (c : CV) (a0 a1 a2 a3 : AV) (h : AH) : enterK Tryz.prog NN P187 c 187 [a0, a1, a2, a3] h = S187 c a0 a1 a2 a3 h := by kernel_rfl
def W187 (c : CV) (l : List AV) (h : AH) : R := match l with | [a0, a1, a2, a3] => S187 c a0 a1 a2 a3 h | _ => none
theorem W187_ok : WOk Tryz.prog 187 W187 := by
  intro c l h r e
  unfold W187 at e
  split at e
  · exact ⟨P187, by rw [S187_eq]; exact e⟩
  · cases e
/- quietus/interp.place -/
def P188 : Pl := (.n none .z (.n none (.n none (.r [[13, 8, 1, 0], [20, 15, 1, 0]]) .z) .z))
def S188 (_ : CV) (a0 a1 : AV) (h : AH) : R :=
pInt .geq a0 (.int .u64 (.ofNat 2147483648)) fun v0 =>
joinC (α := AV × AV × AV × AV × Unit → AH → R) (fun s1 h2 =>
pPick s1.2.1 (.bool true) s1.1 fun v4 =>
joinC (α := AV × AV × AV × AV × Unit → AH → R) (fun s5 h6 =>
pPick s5.2.1 (.bool true) s5.1 fun v8 =>
pCond v8 (
some ((.tup [(.int .i64 (.ofNat 0)), (.int .i64 (.ofNat 2))]), h6)) (
pConvI .i64 s5.2.2.2.1 fun v9 =>
pInt .add v9 s5.2.2.1 fun v10 =>
some ((.tup [v10, (.int .i64 (.ofNat 0))]), h6))) fun j7 =>
pWant v4 false (
pConvI .i64 s1.2.2.2.1 fun v11 =>
pInt .add v11 s1.2.2.1 fun v12 =>
pInt .lss v12 (.int .i64 (.ofNat 6)) fun v13 =>
j7 (v13, v4, s1.2.2.1, s1.2.2.2.1, ()) h2) (
j7 (.undef, v4, s1.2.2.1, s1.2.2.2.1, ()) h2)) fun j3 =>
pWant v0 false (
pConvI .i64 a0 fun v14 =>
pInt .add v14 a1 fun v15 =>
pInt .geq v15 (.int .i64 (.ofNat 2147483648)) fun v16 =>
j3 (v16, v0, a1, a0, ()) h) (
j3 (.undef, v0, a1, a0, ()) h)
theorem S188_eq (c : CV) (a0 a1 : AV) (h : AH) : enterK Tryz.prog NN P188 c 188 [a0, a1] h = S188 c a0 a1 h := by kernel_rfl
def W188 (c : CV) (l : List AV) (h : AH) : R := match l with | [a0, a1] => S188 c a0 a1 h | _ => none
theorem W188_ok : WOk Tryz.prog 188 W188 := by
  intro c l h r e
  unfold W188 at e
  split at e
  · exact ⟨P188, by rw [S188_eq]; exact e⟩
  · cases e
/- (*quietus/view.View).Write -/
def P189 : Pl := .z
def S189 (c : CV) (a0 a1 a2 : AV) (h : AH) : R :=
pCall c (.fn 157 [] []) [a0, a1] h fun v0 h1 =>
pUn .not v0 fun v2 =>
pCond v2 (
some ((.int .i64 (.ofNat 2)), h1)) (
pNil a0 fun v3 =>
pFieldA v3 2 fun v4 =>
pLoad1 h1 v4 fun v5 =>
pCall c (.fn 200 [] []) [v5, a1, a2] h1 fun v6 h7 =>
some (v6, h7))
theorem S189_eq (c : CV) (a0 a1 a2 : AV) (h : AH) : enterK Tryz.prog NN P189 c 189 [a0, a1, a2] h = S189 c a0 a1 a2 h := by kernel_rfl
def W189 (c : CV) (l : List AV) (h : AH) : R := match l with | [a0, a1, a2] => S189 c a0 a1 a2 h | _ => none
theorem W189_ok : WOk Tryz.prog 189 W189 := by
  intro c l h r e
  unfold W189 at e
  split at e
  · exact ⟨P189, by rw [S189_eq]; exact e⟩
  · cases e
/- quietus/arena.Alloc -/
def P190 : Pl := .z
def S190 (c : CV) (a0 a1 : AV) (h : AH) : R :=
pCall c (.fn 257 [] []) [a1] h fun v0 h1 =>
pInt .eql v0 (.int .i64 (.ofNat 0)) fun v2 =>
pCond v2 (
some ((.tup [(.int .i64 (.ofNat 0)), (.int .i64 (.ofNat 3))]), h1)) (
pCall c (.fn 122 [] []) [v0] h1 fun v3 h4 =>
pCall c (.fn 121 [] []) [a0, v3] h4 fun v5 h6 =>
pExtract v5 0 fun v7 =>
pExtract v5 1 fun v8 =>
pInt .neq v8 (.int .i64 (.ofNat 0)) fun v9 =>
pCond v9 (
some ((.tup [(.int .i64 (.ofNat 0)), v8]), h6)) (
pInt .neq v7 (.int .u64 (.ofNat 0)) fun v10 =>
pCond v10 (
pCall c (.fn 258 [] []) [a0, v0, v7] h6 fun v11 h12 =>
pExtract v11 0 fun v13 =>
pExtract v11 1 fun v14 =>
some ((.tup [v13, v14]), h12)) (
pCall c (.fn 259 [] []) [a0, v0] h6 fun v15 h16 =>
pExtract v15 0 fun v17 =>
pExtract v15 1 fun v18 =>
some ((.tup [v17, v18]), h16))))
theorem S190_eq (c : CV) (a0 a1 : AV) (h : AH) : enterK Tryz.prog NN P190 c 190 [a0, a1] h = S190 c a0 a1 h := by kernel_rfl
def W190 (c : CV) (l : List AV) (h : AH) : R := match l with | [a0, a1] => S190 c a0 a1 h | _ => none
theorem W190_ok : WOk Tryz.prog 190 W190 := by
  intro c l h r e
  unfold W190 at e
  split at e
  · exact ⟨P190, by rw [S190_eq]; exact e⟩
  · cases e
/- quietus/arena.Free -/
def P191 : Pl := (.n none .z (.n none .z (.n (some [7, 5, 1, 0]) (.n none (.r [[19, 17, 7, 5, 1, 0]]) .z) (.n (some [7, 1, 0]) .z (.n (some [7]) .z .z)))))
def S191 (c : CV) (a0 a1 : AV) (h : AH) : R :=
pCall c (.fn 120 [] []) [a0, a1] h fun v0 h1 =>
pExtract v0 0 fun v2 =>
pExtract v0 1 fun v3 =>
pExtract v0 2 fun v4 =>
joinC (α := AV × AV × AV × AV × Unit → AH → List Nat → R) (fun s5 h6 d7 =>
joinC (α := AV × AV × AV × Unit → AH → List Nat → R) (fun s9 h10 d11 =>
joinC (α := AV × Unit → AH → List Nat → R) (fun s13 h14 d15 =>
pLeave d15 h14 fun h17 =>
some (s13.1, h17)) fun j16 =>
pInt .eql s9.1 (.int .i64 (.ofNat 0)) fun v18 =>
pCond v18 (
pCall c (.fn 260 [] []) [s9.2.2.1, s9.2.1] h10 fun _ h20 =>
j16 (s9.1, ()) h20 d11) (
j16 (s9.1, ()) h10 d11)) fun j12 =>
pInt .eql s5.1 (.int .i64 (.ofNat 0)) fun v21 =>
pCond v21 (
pInt .sub s5.2.2.1 (.int .i64 (.ofNat 1)) fun v22 =>
pConvI .u64 s5.2.1 fun v23 =>
pBuild [(.int .i64 (.ofNat 0)), (.int .u64 (.ofNat 0))] [(0, 1, v22), (1, 1, v23)] fun v24 =>
pBuildS h6 133 [(.int .i64 (.ofNat 0)), (.int .u64 (.ofNat 0))] 1 [(0, 2, v24)] fun v25 h26 =>
pCall c (.fn 123 [] []) [s5.2.2.2.1, v25] h26 fun v27 h28 =>
j12 (v27, s5.2.2.1, s5.2.2.2.1, ()) h28 d7) (
j12 (s5.1, s5.2.2.1, s5.2.2.2.1, ()) h6 d7)) fun j8 =>
pInt .eql v4 (.int .i64 (.ofNat 0)) fun v29 =>
joinC (α := AV × AV × AV × AV × AV × AV × Unit → AH → R) (fun s30 h31 =>
pPick s30.2.1 s30.1 (.bool false) fun v33 =>
pCond v33 (
j8 ((.int .i64 (.ofNat 2)), s30.2.2.2.1, s30.2.2.2.2.1, s30.2.2.2.2.2.1, ()) h31 []) (
j8 (s30.2.2.1, s30.2.2.2.1, s30.2.2.2.2.1, s30.2.2.2.2.2.1, ()) h31 [])) fun j32 =>
pWant v29 true (
pUn .not v3 fun v34 =>
j32 (v34, v29, v4, v2, a1, a0, ()) h1) (
j32 (.undef, v29, v4, v2, a1, a0, ()) h1)
theorem S191_eq (c : CV) (a0 a1 : AV) (h : AH) : enterK Tryz.prog NN P191 c 191 [a0, a1] h = S191 c a0 a1 h := by kernel_rfl
def W191 (c : CV) (l : List AV) (h : AH) : R := match l with | [a0, a1] => S191 c a0 a1 h | _ => none
theorem W191_ok : WOk Tryz.prog 191 W191 := by
  intro c l h r e
  unfold W191 at e
  split at e
  · exact ⟨P191, by rw [S191_eq]; exact e⟩
  · cases e
/- (*quietus/interp.Interp).begin -/
def P192 : Pl := (.n none .z (.n none .z (.n none (.r [[]]) .z)))
def S192 (c : CV) (a0 a1 a2 : AV) (h : AH) : R :=
pNil a0 fun v0 =>
pFieldA v0 1 fun v1 =>
pLoad1 h v1 fun v2 =>
pCall c (.fn 261 [] []) [v2] h fun v3 h4 =>
pInt .neq v3 (.int .i64 (.ofNat 0)) fun v5 =>
pCond v5 (
some (v3, h4)) (
joinC (α := Unit → AH → R) (fun _ h7 =>
some ((.int .i64 (.ofNat 0)), h7)) fun j8 =>
pNil a0 fun v9 =>
pFieldA v9 18 fun v10 =>
pLoad1 h4 v10 fun v11 =>
pNil a0 fun v12 =>
pFieldA v12 6 fun v13 =>
pLoadN h4 v13 8 fun v14 =>
pNil a0 fun v15 =>
pFieldA v15 14 fun v16 =>
pLoad1 h4 v16 fun v17 =>
pCall c (.fn 262 [] []) [v17] h4 fun v18 h19 =>
pBuild [(.int .i64 (.ofNat 0)), (.int .i64 (.ofNat 0)), (.int .u64 (.ofNat 0)), (.int .u64 (.ofNat 0)), (.int .u64 (.ofNat 0)), (.int .u64 (.ofNat 0)), (.int .u64 (.ofNat 0)), (.int .u64 (.ofNat 0)), (.int .u64 (.ofNat 0)), (.int .u64 (.ofNat 0)), (.int .i64 (.ofNat 0))] [(0, 1, a1), (1, 1, a2), (2, 8, v14), (10, 1, v18)] fun v20 =>
pBuildS h19 264 [(.int .i64 (.ofNat 0)), (.int .i64 (.ofNat 0)), (.int .u64 (.ofNat 0)), (.int .u64 (.ofNat 0)), (.int .u64 (.ofNat 0)), (.int .u64 (.ofNat 0)), (.int .u64 (.ofNat 0)), (.int .u64 (.ofNat 0)), (.int .u64 (.ofNat 0)), (.int .u64 (.ofNat 0)), (.int .i64 (.ofNat 0))] 1 [(0, 11, v20)] fun v21 h22 =>
pAppend h22 264 11 v11 v21 fun v23 h24 =>
pNil a0 fun v25 =>
pFieldA v25 18 fun v26 =>
pStore h24 v26 v23 1 fun h27 =>
pChk v13 (some 8) v14 h4 h19 h4.nx <|
pChk v10 none v11 h4 h19 h4.nx <|
j8 (()) h27)
theorem S192_eq (c : CV) (a0 a1 a2 : AV) (h : AH) : enterK Tryz.prog NN P192 c 192 [a0, a1, a2] h = S192 c a0 a1 a2 h := by kernel_rfl
def W192 (c : CV) (l : List AV) (h : AH) : R := match l with | [a0, a1, a2] => S192 c a0 a1 a2 h | _ => none
theorem W192_ok : WOk Tryz.prog 192 W192 := by
  intro c l h r e
  unfold W192 at e
  split at e
  · exact ⟨P192, by rw [S192_eq]; exact e⟩
  · cases e
/- (*quietus/interp.Interp).leave -/
def P193 : Pl := .z
def S193 (_ : CV) (a0 : AV) (h : AH) : R :=
pBox h 264 (.agg [(.int .i64 (.ofNat 0)), (.int .i64 (.ofNat 0)), (.int .u64 (.ofNat 0)), (.int .u64 (.ofNat 0)), (.int .u64 (.ofNat 0)), (.int .u64 (.ofNat 0)), (.int .u64 (.ofNat 0)), (.int .u64 (.ofNat 0)), (.int .u64 (.ofNat 0)), (.int .u64 (.ofNat 0)), (.int .i64 (.ofNat 0))]) fun v0 h1 =>
pNil a0 fun v2 =>
pFieldA v2 18 fun v3 =>
pLoad1 h1 v3 fun v4 =>
pNil a0 fun v5 =>
pFieldA v5 18 fun v6 =>
pLoad1 h1 v6 fun v7 =>
pLenS v7 fun v8 =>
pInt .sub v8 (.int .i64 (.ofNat 1)) fun v9 =>
pIdxS v4 v9 11 fun v10 =>
pLoadN h1 v10 11 fun v11 =>
pBox h1 264 (.agg [(.int .i64 (.ofNat 0)), (.int .i64 (.ofNat 0)), (.int .u64 (.ofNat 0)), (.int .u64 (.ofNat 0)), (.int .u64 (.ofNat 0)), (.int .u64 (.ofNat 0)), (.int .u64 (.ofNat 0)), (.int .u64 (.ofNat 0)), (.int .u64 (.ofNat 0)), (.int .u64 (.ofNat 0)), (.int .i64 (.ofNat 0))]) fun v12 h13 =>
pStore h13 v12 v11 11 fun h14 =>
pNil a0 fun v15 =>
pFieldA v15 18 fun v16 =>
pLoad1 h14 v16 fun v17 =>
pNil a0 fun v18 =>
pFieldA v18 18 fun v19 =>
pLoad1 h14 v19 fun v20 =>
pLenS v20 fun v21 =>
pInt .sub v21 (.int .i64 (.ofNat 1)) fun v22 =>
pSlice h14 264 11 v17 none (some v22) fun v23 =>
pNil a0 fun v24 =>
pFieldA v24 18 fun v25 =>
pStore h14 v25 v23 1 fun h26 =>
pLoadN h26 v12 11 fun v27 =>
pStore h26 v0 v27 11 fun h28 =>
pLoadN h28 v0 11 fun v29 =>
some (v29, h28)
theorem S193_eq (c : CV) (a0 : AV) (h : AH) : enterK Tryz.prog NN P193 c 193 [a0] h = S193 c a0 h := by kernel_rfl
def W193 (c : CV) (l : List AV) (h : AH) : R := match l with | [a0] => S193 c a0 h | _ => none
theorem W193_ok : WOk Tryz.prog 193 W193 := by
  intro c l h r e
  unfold W193 at e
  split at e
  · exact ⟨P193, by rw [S193_eq]; exact e⟩
  · cases e
/- (*quietus/view.View).Keep -/
def P194 : Pl := .z
def S194 (c : CV) (a0 : AV) (h : AH) : R :=
pNil a0 fun v0 =>
pFieldA v0 2 fun v1 =>
pLoad1 h v1 fun v2 =>
pCall c (.fn 263 [] []) [v2] h fun v3 h4 =>
some (v3, h4)
theorem S194_eq (c : CV) (a0 : AV) (h : AH) : enterK Tryz.prog NN P194 c 194 [a0] h = S194 c a0 h := by kernel_rfl
def W194 (c : CV) (l : List AV) (h : AH) : R := match l with | [a0] => S194 c a0 h | _ => none
theorem W194_ok : WOk Tryz.prog 194 W194 := by
  intro c l h r e
  unfold W194 at e
  split at e
  · exact ⟨P194, by rw [S194_eq]; exact e⟩
  · cases e
/- (*quietus/interp.Interp).back -/
def P195 : Pl := .z
def S195 (c : CV) (a0 a1 : AV) (h : AH) : R :=
pBox h 264 a1 fun v0 h1 =>
pFieldA v0 2 fun v2 =>
pLoadN h1 v2 8 fun v3 =>
pNil a0 fun v4 =>
pFieldA v4 6 fun v5 =>
pStore h1 v5 v3 8 fun h6 =>
pNil a0 fun v7 =>
pFieldA v7 14 fun v8 =>
pLoad1 h6 v8 fun v9 =>
pFieldA v0 10 fun v10 =>
pLoad1 h6 v10 fun v11 =>
pCall c (.fn 264 [] []) [v9, v11] h6 fun _ h13 =>
some ((.tup []), h13)
theorem S195_eq (c : CV) (a0 a1 : AV) (h : AH) : enterK Tryz.prog NN P195 c 195 [a0, a1] h = S195 c a0 a1 h := by kernel_rfl
def W195 (c : CV) (l : List AV) (h : AH) : R := match l with | [a0, a1] => S195 c a0 a1 h | _ => none
theorem W195_ok : WOk Tryz.prog 195 W195 := by
  intro c l h r e
  unfold W195 at e
  split at e
  · exact ⟨P195, by rw [S195_eq]; exact e⟩
  · cases e
/- (*quietus/view.View).Drop -/
def P196 : Pl := .z
def S196 (c : CV) (a0 : AV) (h : AH) : R :=
pNil a0 fun v0 =>
pFieldA v0 2 fun v1 =>
pLoad1 h v1 fun v2 =>
pCall c (.fn 265 [] []) [v2] h fun v3 h4 =>
some (v3, h4)
theorem S196_eq (c : CV) (a0 : AV) (h : AH) : enterK Tryz.prog NN P196 c 196 [a0] h = S196 c a0 h := by kernel_rfl
def W196 (c : CV) (l : List AV) (h : AH) : R := match l with | [a0] => S196 c a0 h | _ => none
theorem W196_ok : WOk Tryz.prog 196 W196 := by
  intro c l h r e
  unfold W196 at e
  split at e
  · exact ⟨P196, by rw [S196_eq]; exact e⟩
  · cases e
/- (*quietus/interp.Interp).retry -/
def P197 : Pl := (.n none .z (.n none (.n none (.n (some [0]) .z .z) .z) .z))
def S197 (c : CV) (a0 : AV) (h : AH) : R :=
loopC (σ := AV × Unit) NN (fun i3 s0 h1 d2 =>
pNil s0.1 fun v4 =>
pFieldA v4 18 fun v5 =>
pLoad1 h1 v5 fun v6 =>
pLenS v6 fun v7 =>
pInt .gtr v7 (.int .i64 (.ofNat 0)) fun v8 =>
pCond v8 (
pCall c (.fn 193 [] []) [s0.1] h1 fun v9 h10 =>
pBox h10 264 (.agg [(.int .i64 (.ofNat 0)), (.int .i64 (.ofNat 0)), (.int .u64 (.ofNat 0)), (.int .u64 (.ofNat 0)), (.int .u64 (.ofNat 0)), (.int .u64 (.ofNat 0)), (.int .u64 (.ofNat 0)), (.int .u64 (.ofNat 0)), (.int .u64 (.ofNat 0)), (.int .u64 (.ofNat 0)), (.int .i64 (.ofNat 0))]) fun v11 h12 =>
pStore h12 v11 v9 11 fun h13 =>
pNil s0.1 fun v14 =>
pFieldA v14 1 fun v15 =>
pLoad1 h13 v15 fun v16 =>
pCall c (.fn 196 [] []) [v16] h13 fun v17 h18 =>
pInt .neq v17 (.int .i64 (.ofNat 0)) fun v19 =>
pCond v19 (
pLeave d2 h18 fun h20 =>
some (v17, h20)) (
pFieldA v11 0 fun v21 =>
pLoad1 h18 v21 fun v22 =>
pInt .eql v22 (.int .i64 (.ofNat 17)) fun v23 =>
pCond v23 (
pLoadN h18 v11 11 fun v24 =>
pCall c (.fn 195 [] []) [s0.1, v24] h18 fun _ h26 =>
pNil s0.1 fun v27 =>
pFieldA v27 2 fun v28 =>
pLoad1 h26 v28 fun v29 =>
pFieldA v11 1 fun v30 =>
pLoad1 h26 v30 fun v31 =>
pIdxS v29 v31 1 fun v32 =>
pLoad1 h26 v32 fun v33 =>
pInt .add v33 (.int .i64 (.ofNat 1)) fun v34 =>
pNil s0.1 fun v35 =>
pFieldA v35 16 fun v36 =>
pStore h26 v36 v34 1 fun h37 =>
pCall c (.fn 192 [] []) [s0.1, (.int .i64 (.ofNat 18)), v33] h37 fun v38 h39 =>
pLeave d2 h39 fun h40 =>
some (v38, h40)) (
i3 (s0.1, ()) h18 d2))) (
pNil s0.1 fun v41 =>
pFieldA v41 15 fun v42 =>
pLoad1 h1 v42 fun v43 =>
pNil s0.1 fun v44 =>
pFieldA v44 16 fun v45 =>
pStore h1 v45 v43 1 fun h46 =>
pNil s0.1 fun v47 =>
pFieldA v47 5 fun v48 =>
pStore h46 v48 (.int .i64 (.ofNat 3)) 1 fun h49 =>
pLeave d2 h49 fun h50 =>
some ((.int .i64 (.ofNat 0)), h50))) (a0, ()) h []
theorem S197_eq (c : CV) (a0 : AV) (h : AH) : enterK Tryz.prog NN P197 c 197 [a0] h = S197 c a0 h := by kernel_rfl
def W197 (c : CV) (l : List AV) (h : AH) : R := match l with | [a0] => S197 c a0 h | _ => none
theorem W197_ok : WOk Tryz.prog 197 W197 := by
  intro c l h r e
  unfold W197 at e
  split at e
  · exact ⟨P197, by rw [S197_eq]; exact e⟩
  · cases e
/- (*quietus/writes.Writes).Get -/
def P198 : Pl := .z
def S198 (c : CV) (a0 a1 : AV) (h : AH) : R :=
pCall c (.fn 201 [] []) [a0, a1] h fun v0 h1 =>
pInt .geq v0 (.int .i64 (.ofNat 0)) fun v2 =>
pCond v2 (
pNil a0 fun v3 =>
pFieldA v3 1 fun v4 =>
pLoad1 h1 v4 fun v5 =>
pIdxS v5 v0 2 fun v6 =>
pFieldA v6 1 fun v7 =>
pLoad1 h1 v7 fun v8 =>
some ((.tup [v8, (.bool true)]), h1)) (
some ((.tup [(.int .u64 (.ofNat 0)), (.bool false)]), h1))
theorem S198_eq (c : CV) (a0 a1 : AV) (h : AH) : enterK Tryz.prog NN P198 c 198 [a0, a1] h = S198 c a0 a1 h := by kernel_rfl
def W198 (c : CV) (l : List AV) (h : AH) : R := match l with | [a0, a1] => S198 c a0 a1 h | _ => none
theorem W198_ok : WOk Tryz.prog 198 W198 := by
  intro c l h r e
  unfold W198 at e
  split at e
  · exact ⟨P198, by rw [S198_eq]; exact e⟩
  · cases e
/- (*quietus/levels.Levels).in -/
def P199 : Pl := .z
def S199 (_ : CV) (a0 : AV) (h : AH) : R :=
pNil a0 fun v0 =>
pFieldA v0 1 fun v1 =>
pLoad1 h v1 fun v2 =>
pNil a0 fun v3 =>
pFieldA v3 1 fun v4 =>
pLoad1 h v4 fun v5 =>
pLenS v5 fun v6 =>
pInt .sub v6 (.int .i64 (.ofNat 1)) fun v7 =>
pIdxS v2 v7 1 fun v8 =>
pLoad1 h v8 fun v9 =>
some (v9, h)
theorem S199_eq (c : CV) (a0 : AV) (h : AH) : enterK Tryz.prog NN P199 c 199 [a0] h = S199 c a0 h := by kernel_rfl
def W199 (c : CV) (l : List AV) (h : AH) : R := match l with | [a0] => S199 c a0 h | _ => none
theorem W199_ok : WOk Tryz.prog 199 W199 := by
  intro c l h r e
  unfold W199 at e
  split at e
  · exact ⟨P199, by rw [S199_eq]; exact e⟩
  · cases e
/- (*quietus/levels.Levels).Put -/
def P200 : Pl := (.n none .z (.n none (.n none (.r [[14, 12, 2, 1, 0]]) .z) (.n none .z (.n none (.n none .z (.n none (.r [[32, 29, 7, 2, 1]]) .z)) .z))))
def S200 (c : CV) (a0 a1 a2 : AV) (h : AH) : R :=
pInt .lss a1 (.int .i64 (.ofNat 1)) fun v0 =>
joinC (α := AV × AV × AV × AV × AV × Unit → AH → R) (fun s1 h2 =>
pPick s1.2.1 (.bool true) s1.1 fun v4 =>
pCond v4 (
some ((.int .i64 (.ofNat 2)), h2)) (
pCall c (.fn 199 [] []) [s1.2.2.2.2.1] h2 fun v5 h6 =>
pNil v5 fun v7 =>
pFieldA v7 0 fun v8 =>
pLoad1 h6 v8 fun v9 =>
pCall c (.fn 198 [] []) [v9, s1.2.2.2.1] h6 fun v10 h11 =>
pExtract v10 0 fun _ =>
pExtract v10 1 fun v13 =>
pUn .not v13 fun v14 =>
joinC (α := AV × AV × AV × AV × AV × Unit → AH → R) (fun s15 h16 =>
pPick s15.2.1 s15.1 (.bool false) fun v18 =>
pCond v18 (
some ((.int .i64 (.ofNat 5)), h16)) (
pCall c (.fn 161 [] []) [s15.2.2.1, s15.2.2.2.2.1, s15.2.2.2.1] h16 fun v19 h20 =>
some (v19, h20))) fun j17 =>
pWant v14 true (
pCall c (.fn 266 [] []) [s1.2.2.2.2.1] h11 fun v21 h22 =>
pInt .eql v21 (.int .i64 (.ofNat 0)) fun v23 =>
j17 (v23, v14, v9, s1.2.2.1, s1.2.2.2.1, ()) h22) (
j17 (.undef, v14, v9, s1.2.2.1, s1.2.2.2.1, ()) h11))) fun j3 =>
pWant v0 false (
pInt .geq a1 (.int .i64 (.ofNat 256)) fun v24 =>
j3 (v24, v0, a2, a1, a0, ()) h) (
j3 (.undef, v0, a2, a1, a0, ()) h)
theorem S200_eq (c : CV) (a0 a1 a2 : AV) (h : AH) : enterK Tryz.prog NN P200 c 200 [a0, a1, a2] h = S200 c a0 a1 a2 h := by kernel_rfl
def W200 (c : CV) (l : List AV) (h : AH) : R := match l with | [a0, a1, a2] => S200 c a0 a1 a2 h | _ => none
theorem W200_ok : WOk Tryz.prog 200 W200 := by
  intro c l h r e
  unfold W200 at e
  split at e
  · exact ⟨P200, by rw [S200_eq]; exact e⟩
  · cases e
/- (*quietus/writes.Writes).find -/
def P201 : Pl := .z
def S201 (c : CV) (a0 a1 : AV) (h : AH) : R :=
pBox h 3 a1 fun v0 h1 =>
pNil a0 fun v2 =>
pFieldA v2 1 fun v3 =>
pLoad1 h1 v3 fun v4 =>
pCall c (.fn 267 [] []) [v4, (.fn 268 [] [v0])] h1 fun v5 h6 =>
some (v5, h6)
theorem S201_eq (c : CV) (a0 a1 : AV) (h : AH) : enterK Tryz.prog NN P201 c 201 [a0, a1] h = S201 c a0 a1 h := by kernel_rfl
def W201 (c : CV) (l : List AV) (h : AH) : R := match l with | [a0, a1] => S201 c a0 a1 h | _ => none
theorem W201_ok : WOk Tryz.prog 201 W201 := by
  intro c l h r e
  unfold W201 at e
  split at e
  · exact ⟨P201, by rw [S201_eq]; exact e⟩
  · cases e
/- slices.insertionSortOrdered[int] -/
def P202 : Pl := (.n none .z (.n none (.n (some [6, 2, 1, 0]) (.n none .z (.n none (.n none (.n none .z (.n none (.n (some [7, 6, 2, 1, 0]) (.n none (.n none (.r [[29, 19, 7, 6, 2, 1, 0]]) .z) .z) .z) .z)) .z) .z)) .z) .z))
def S202 (c : CV) (a0 a1 a2 : AV) (h : AH) : R :=
pInt .add a1 (.int .i64 (.ofNat 1)) fun v0 =>
loopC (σ := AV × AV × AV × AV × Unit) NN (fun i4 s1 h2 d3 =>
pInt .lss s1.1 s1.2.1 fun v5 =>
pCond v5 (
loopC (σ := AV × AV × AV × AV × AV × Unit) NN (fun i9 s6 h7 d8 =>
pInt .gtr s6.1 s6.2.2.2.1 fun v10 =>
joinC (α := AV × AV × AV × AV × AV × AV × AV × Unit → AH → R) (fun s11 h12 =>
pPick s11.2.1 s11.1 (.bool false) fun v14 =>
pCond v14 (
pInt .sub s11.2.2.1 (.int .i64 (.ofNat 1)) fun v15 =>
pInt .sub s11.2.2.1 (.int .i64 (.ofNat 1)) fun v16 =>
pIdxS s11.2.2.2.2.2.2.1 v16 1 fun v17 =>
pLoad1 h12 v17 fun v18 =>
pIdxS s11.2.2.2.2.2.2.1 s11.2.2.1 1 fun v19 =>
pLoad1 h12 v19 fun v20 =>
pIdxS s11.2.2.2.2.2.2.1 s11.2.2.1 1 fun v21 =>
pStore h12 v21 v18 1 fun h22 =>
pIdxS s11.2.2.2.2.2.2.1 v15 1 fun v23 =>
pStore h22 v23 v20 1 fun h24 =>
pInt .sub s11.2.2.1 (.int .i64 (.ofNat 1)) fun v25 =>
i9 (v25, s11.2.2.2.1, s11.2.2.2.2.1, s11.2.2.2.2.2.1, s11.2.2.2.2.2.2.1, ()) h24 d8) (
pInt .add s11.2.2.2.1 (.int .i64 (.ofNat 1)) fun v26 =>
i4 (v26, s11.2.2.2.2.1, s11.2.2.2.2.2.1, s11.2.2.2.2.2.2.1, ()) h12 d8)) fun j13 =>
pWant v10 true (
pIdxS s6.2.2.2.2.1 s6.1 1 fun v27 =>
pLoad1 h7 v27 fun v28 =>
pInt .sub s6.1 (.int .i64 (.ofNat 1)) fun v29 =>
pIdxS s6.2.2.2.2.1 v29 1 fun v30 =>
pLoad1 h7 v30 fun v31 =>
pCall c (.fn 208 [] []) [v28, v31] h7 fun v32 h33 =>
j13 (v32, v10, s6.1, s6.2.1, s6.2.2.1, s6.2.2.2.1, s6.2.2.2.2.1, ()) h33) (
j13 (.undef, v10, s6.1, s6.2.1, s6.2.2.1, s6.2.2.2.1, s6.2.2.2.2.1, ()) h7)) (s1.1, s1.1, s1.2.1, s1.2.2.1, s1.2.2.2.1, ()) h2 d3) (
pLeave d3 h2 fun h34 =>
some ((.tup []), h34))) (v0, a2, a1, a0, ()) h []
theorem S202_eq (c : CV) (a0 a1 a2 : AV) (h : AH) : enterK Tryz.prog NN P202 c 202 [a0, a1, a2] h = S202 c a0 a1 a2 h := by kernel_rfl
def W202 (c : CV) (l : List AV) (h : AH) : R := match l with | [a0, a1, a2] => S202 c a0 a1 a2 h | _ => none
theorem W202_ok : WOk Tryz.prog 202 W202 := by
  intro c l h r e
  unfold W202 at e
  split at e
  · exact ⟨P202, by rw [S202_eq]; exact e⟩
  · cases e
/- slices.heapSortOrdered[int] -/
def P203 : Pl := (.n none .z (.n none .z (.n none .z (.n none (.n none .z (.n none (.n (some [9, 8, 7, 6, 0]) .z .z) .z)) (.n none .z (.n none (.n (some [10, 7, 6, 0]) .z .z) .z))))))
def S203 (c : CV) (a0 a1 a2 : AV) (h : AH) : R :=
pInt .sub a2 a1 fun v0 =>
pInt .sub v0 (.int .i64 (.ofNat 1)) fun v1 =>
pInt .quo v1 (.int .i64 (.ofNat 2)) fun v2 =>
loopC (σ := AV × AV × AV × AV × AV × Unit) NN (fun i6 s3 h4 d5 =>
pInt .geq s3.1 (.int .i64 (.ofNat 0)) fun v7 =>
pCond v7 (
pCall c (.fn 269 [] []) [s3.2.2.2.2.1, s3.1, s3.2.1, s3.2.2.2.1] h4 fun _ h9 =>
pInt .sub s3.1 (.int .i64 (.ofNat 1)) fun v10 =>
i6 (v10, s3.2.1, s3.2.2.1, s3.2.2.2.1, s3.2.2.2.2.1, ()) h9 d5) (
pInt .sub s3.2.1 (.int .i64 (.ofNat 1)) fun v11 =>
loopC (σ := AV × AV × AV × AV × Unit) NN (fun i15 s12 h13 d14 =>
pInt .geq s12.1 (.int .i64 (.ofNat 0)) fun v16 =>
pCond v16 (
pInt .add s12.2.2.1 s12.1 fun v17 =>
pInt .add s12.2.2.1 s12.1 fun v18 =>
pIdxS s12.2.2.2.1 v18 1 fun v19 =>
pLoad1 h13 v19 fun v20 =>
pIdxS s12.2.2.2.1 s12.2.2.1 1 fun v21 =>
pLoad1 h13 v21 fun v22 =>
pIdxS s12.2.2.2.1 s12.2.2.1 1 fun v23 =>
pStore h13 v23 v20 1 fun h24 =>
pIdxS s12.2.2.2.1 v17 1 fun v25 =>
pStore h24 v25 v22 1 fun h26 =>
pCall c (.fn 269 [] []) [s12.2.2.2.1, s12.2.1, s12.1, s12.2.2.1] h26 fun _ h28 =>
pInt .sub s12.1 (.int .i64 (.ofNat 1)) fun v29 =>
i15 (v29, s12.2.1, s12.2.2.1, s12.2.2.2.1, ()) h28 d14) (
pLeave d14 h13 fun h30 =>
some ((.tup []), h30))) (v11, s3.2.2.1, s3.2.2.2.1, s3.2.2.2.2.1, ()) h4 d5)) (v2, v0, (.int .i64 (.ofNat 0)), a1, a0, ()) h []
theorem S203_eq (c : CV) (a0 a1 a2 : AV) (h : AH) : enterK Tryz.prog NN P203 c 203 [a0, a1, a2] h = S203 c a0 a1 a2 h := by kernel_rfl
def W203 (c : CV) (l : List AV) (h : AH) : R := match l with | [a0, a1, a2] => S203 c a0 a1 a2 h | _ => none
theorem W203_ok : WOk Tryz.prog 203 W203 := by
  intro c l h r e
  unfold W203 at e
  split at e
  · exact ⟨P203, by rw [S203_eq]; exact e⟩
  · cases e
/- slices.breakPatternsOrdered[int] -/
def P204 : Pl := (.n none .z (.n none .z (.n none (.n none .z (.n none .z (.n none .z (.n none (.n (some [9, 8, 7, 6, 1, 0]) (.n none .z (.n none (.n none (.n none .z (.n (some [10, 9, 8, 7, 6, 1, 0]) .z .z)) .z) .z)) .z) .z)))) .z)))
def S204 (c : CV) (a0 a1 a2 : AV) (h : AH) : R :=
pInt .sub a2 a1 fun v0 =>
pInt .geq v0 (.int .i64 (.ofNat 8)) fun v1 =>
pCond v1 (
pConvI .u64 v0 fun v2 =>
pBox h 315 (.int .u64 (.ofNat 0)) fun v3 h4 =>
pStore h4 v3 v2 1 fun h5 =>
pCall c (.fn 270 [] []) [v0] h5 fun v6 h7 =>
pInt .quo v0 (.int .i64 (.ofNat 4)) fun v8 =>
pInt .mul v8 (.int .i64 (.ofNat 2)) fun v9 =>
pInt .add a1 v9 fun v10 =>
pInt .sub v10 (.int .i64 (.ofNat 1)) fun v11 =>
loopC (σ := AV × AV × AV × AV × AV × AV × Unit) NN (fun i15 s12 h13 d14 =>
pInt .quo s12.2.2.2.1 (.int .i64 (.ofNat 4)) fun v16 =>
pInt .mul v16 (.int .i64 (.ofNat 2)) fun v17 =>
pInt .add s12.2.2.2.2.1 v17 fun v18 =>
pInt .add v18 (.int .i64 (.ofNat 1)) fun v19 =>
pInt .leq s12.1 v19 fun v20 =>
pCond v20 (
pCall c (.fn 271 [] []) [s12.2.2.1] h13 fun v21 h22 =>
pInt .sub s12.2.1 (.int .u64 (.ofNat 1)) fun v23 =>
pInt .and v21 v23 fun v24 =>
pConvI .i64 v24 fun v25 =>
joinC (α := AV × AV × AV × AV × AV × AV × AV × Unit → AH → List Nat → R) (fun s26 h27 d28 =>
pInt .add s26.2.2.2.2.2.1 s26.1 fun v30 =>
pInt .add s26.2.2.2.2.2.1 s26.1 fun v31 =>
pIdxS s26.2.2.2.2.2.2.1 v31 1 fun v32 =>
pLoad1 h27 v32 fun v33 =>
pIdxS s26.2.2.2.2.2.2.1 s26.2.1 1 fun v34 =>
pLoad1 h27 v34 fun v35 =>
pIdxS s26.2.2.2.2.2.2.1 s26.2.1 1 fun v36 =>
pStore h27 v36 v33 1 fun h37 =>
pIdxS s26.2.2.2.2.2.2.1 v30 1 fun v38 =>
pStore h37 v38 v35 1 fun h39 =>
pInt .add s26.2.1 (.int .i64 (.ofNat 1)) fun v40 =>
i15 (v40, s26.2.2.1, s26.2.2.2.1, s26.2.2.2.2.1, s26.2.2.2.2.2.1, s26.2.2.2.2.2.2.1, ()) h39 d28) fun j29 =>
pInt .geq v25 s12.2.2.2.1 fun v41 =>
pCond v41 (
pInt .sub v25 s12.2.2.2.1 fun v42 =>
j29 (v42, s12.1, s12.2.1, s12.2.2.1, s12.2.2.2.1, s12.2.2.2.2.1, s12.2.2.2.2.2.1, ()) h22 d14) (
j29 (v25, s12.1, s12.2.1, s12.2.2.1, s12.2.2.2.1, s12.2.2.2.2.1, s12.2.2.2.2.2.1, ()) h22 d14)) (
pLeave d14 h13 fun h43 =>
some ((.tup []), h43))) (v11, v6, v3, v0, a1, a0, ()) h7 []) (
some ((.tup []), h))
theorem S204_eq (c : CV) (a0 a1 a2 : AV) (h : AH) : enterK Tryz.prog NN P204 c 204 [a0, a1, a2] h = S204 c a0 a1 a2 h := by kernel_rfl
def W204 (c : CV) (l : List AV) (h : AH) : R := match l with | [a0, a1, a2] => S204 c a0 a1 a2 h | _ => none
theorem W204_ok : WOk Tryz.prog 204 W204 := by
  intro c l h r e
  unfold W204 at e
  split at e
  · exact ⟨P204, by rw [S204_eq]; exact e⟩
  · cases e
/- slices.choosePivotOrdered[int] -/
def P205 : Pl := (.n none .z (.n none .z (.n none .z (.n none .z (.n none .z (.n none .z (.n (some [11, 9]) (.n none .z (.n none (.n (some [12, 11, 10, 9, 0]) .z .z) .z)) .z)))))))
def S205 (c : CV) (a0 a1 a2 : AV) (h : AH) : R :=
pInt .sub a2 a1 fun v0 =>
pBox h 3 (.int .i64 (.ofNat 0)) fun v1 h2 =>
pInt .quo v0 (.int .i64 (.ofNat 4)) fun v3 =>
pInt .mul v3 (.int .i64 (.ofNat 1)) fun v4 =>
pInt .add a1 v4 fun v5 =>
pInt .quo v0 (.int .i64 (.ofNat 4)) fun v6 =>
pInt .mul v6 (.int .i64 (.ofNat 2)) fun v7 =>
pInt .add a1 v7 fun v8 =>
pInt .quo v0 (.int .i64 (.ofNat 4)) fun v9 =>
pInt .mul v9 (.int .i64 (.ofNat 3)) fun v10 =>
pInt .add a1 v10 fun v11 =>
joinC (α := AV × AV × Unit → AH → List Nat → R) (fun s12 h13 d14 =>
pLoad1 h13 s12.2.1 fun v16 =>
pInt .eql v16 (.int .i64 (.ofNat 0)) fun v17 =>
pCond v17 (
pLeave d14 h13 fun h18 =>
some ((.tup [s12.1, (.int .i64 (.ofNat 1))]), h18)) (
pInt .eql v16 (.int .i64 (.ofNat 12)) fun v19 =>
pCond v19 (
pLeave d14 h13 fun h20 =>
some ((.tup [s12.1, (.int .i64 (.ofNat 2))]), h20)) (
pLeave d14 h13 fun h21 =>
some ((.tup [s12.1, (.int .i64 (.ofNat 0))]), h21)))) fun j15 =>
pInt .geq v0 (.int .i64 (.ofNat 8)) fun v22 =>
pCond v22 (
joinC (α := AV × AV × AV × AV × AV × Unit → AH → List Nat → R) (fun s23 h24 d25 =>
pCall c (.fn 273 [] []) [s23.2.2.2.2.1, s23.2.2.1, s23.2.1, s23.1, s23.2.2.2.1] h24 fun v27 h28 =>
j15 (v27, s23.2.2.2.1, ()) h28 d25) fun j26 =>
pInt .geq v0 (.int .i64 (.ofNat 50)) fun v29 =>
pCond v29 (
pCall c (.fn 272 [] []) [a0, v5, v1] h2 fun v30 h31 =>
pCall c (.fn 272 [] []) [a0, v8, v1] h31 fun v32 h33 =>
pCall c (.fn 272 [] []) [a0, v11, v1] h33 fun v34 h35 =>
j26 (v34, v32, v30, v1, a0, ()) h35 []) (
j26 (v11, v8, v5, v1, a0, ()) h2 [])) (
j15 (v8, v1, ()) h2 [])
theorem S205_eq (c : CV) (a0 a1 a2 : AV) (h : AH) : enterK Tryz.prog NN P205 c 205 [a0, a1, a2] h = S205 c a0 a1 a2 h := by kernel_rfl
def W205 (c : CV) (l : List AV) (h : AH) : R := match l with | [a0, a1, a2] => S205 c a0 a1 a2 h | _ => none
theorem W205_ok : WOk Tryz.prog 205 W205 := by
  intro c l h r e
  unfold W205 at e
  split at e
  · exact ⟨P205, by rw [S205_eq]; exact e⟩
  · cases e
/- slices.reverseRangeOrdered[int] -/
def P206 : Pl := (.n none .z (.n none .z (.n none (.n (some [7, 6, 0]) .z .z) .z)))
def S206 (_ : CV) (a0 a1 a2 : AV) (h : AH) : R :=
pInt .sub a2 (.int .i64 (.ofNat 1)) fun v0 =>
loopC (σ := AV × AV × AV × Unit) NN (fun i4 s1 h2 d3 =>
pInt .lss s1.2.1 s1.1 fun v5 =>
pCond v5 (
pIdxS s1.2.2.1 s1.1 1 fun v6 =>
pLoad1 h2 v6 fun v7 =>
pIdxS s1.2.2.1 s1.2.1 1 fun v8 =>
pLoad1 h2 v8 fun v9 =>
pIdxS s1.2.2.1 s1.2.1 1 fun v10 =>
pStore h2 v10 v7 1 fun h11 =>
pIdxS s1.2.2.1 s1.1 1 fun v12 =>
pStore h11 v12 v9 1 fun h13 =>
pInt .add s1.2.1 (.int .i64 (.ofNat 1)) fun v14 =>
pInt .sub s1.1 (.int .i64 (.ofNat 1)) fun v15 =>
i4 (v15, v14, s1.2.2.1, ()) h13 d3) (
pLeave d3 h2 fun h16 =>
some ((.tup []), h16))) (v0, a1, a0, ()) h []
theorem S206_eq (c : CV) (a0 a1 a2 : AV) (h : AH) : enterK Tryz.prog NN P206 c 206 [a0, a1, a2] h = S206 c a0 a1 a2 h := by kernel_rfl
def W206 (c : CV) (l : List AV) (h : AH) : R := match l with | [a0, a1, a2] => S206 c a0 a1 a2 h | _ => none
theorem W206_ok : WOk Tryz.prog 206 W206 := by
  intro c l h r e
  unfold W206 at e
  split at e
  · exact ⟨P206, by rw [S206_eq]; exact e⟩
  · cases e
/- slices.partialInsertionSortOrdered[int] -/
def P207 : Pl := (.n none .z (.n none .z (.n none (.n none .z (.n none (.n (some [8, 7, 2, 1, 0]) (.n none .z (.n none (.n (some [8, 7, 2, 1, 0]) (.n none (.n none (.n (some [8, 7, 2, 1, 0]) (.n none (.n none (.r [[31, 20, 8, 7, 2, 1, 0]]) .z) .z) .z) .z) (.n none .z (.n none .z (.n none .z (.n (some [8, 7, 2, 1, 0]) (.n none .z (.n none (.n none .z (.n (some [8, 7, 2, 1, 0]) (.n (some [9, 8, 7, 2, 1, 0]) .z .z) .z)) .z)) (.n none .z (.n none (.n none .z (.n (some [8, 7, 2, 1, 0]) (.n (some [10, 8, 7, 2, 1, 0]) .z .z) .z)) .z))))))) .z) .z)) .z) .z)) .z)))
def S207 (c : CV) (a0 a1 a2 : AV) (h : AH) : R :=
pInt .add a1 (.int .i64 (.ofNat 1)) fun v0 =>
loopC (σ := AV × AV × AV × AV × AV × Unit) NN (fun i4 s1 h2 d3 =>
pInt .lss s1.1 (.int .i64 (.ofNat 5)) fun v5 =>
pCond v5 (
joinC (α := AV × AV × AV × AV × AV × Unit → AH → List Nat → R) (fun s6 h7 d8 =>
pInt .add s6.1 (.int .i64 (.ofNat 1)) fun v10 =>
i4 (v10, s6.2.1, s6.2.2.1, s6.2.2.2.1, s6.2.2.2.2.1, ()) h7 d8) fun j9 =>
loopC (σ := AV × AV × AV × AV × AV × Unit) NN (fun i14 s11 h12 d13 =>
pInt .lss s11.2.1 s11.2.2.1 fun v15 =>
joinC (α := AV × AV × AV × AV × AV × AV × AV × Unit → AH → R) (fun s16 h17 =>
pPick s16.2.1 s16.1 (.bool false) fun v19 =>
pCond v19 (
pInt .add s16.2.2.2.1 (.int .i64 (.ofNat 1)) fun v20 =>
i14 (s16.2.2.1, v20, s16.2.2.2.2.1, s16.2.2.2.2.2.1, s16.2.2.2.2.2.2.1, ()) h17 d13) (
pInt .eql s16.2.2.2.1 s16.2.2.2.2.1 fun v21 =>
pCond v21 (
pLeave d13 h17 fun h22 =>
some ((.bool true), h22)) (
pInt .sub s16.2.2.2.2.1 s16.2.2.2.2.2.1 fun v23 =>
pInt .lss v23 (.int .i64 (.ofNat 50)) fun v24 =>
pCond v24 (
pLeave d13 h17 fun h25 =>
some ((.bool false), h25)) (
pInt .sub s16.2.2.2.1 (.int .i64 (.ofNat 1)) fun v26 =>
pInt .sub s16.2.2.2.1 (.int .i64 (.ofNat 1)) fun v27 =>
pIdxS s16.2.2.2.2.2.2.1 v27 1 fun v28 =>
pLoad1 h17 v28 fun v29 =>
pIdxS s16.2.2.2.2.2.2.1 s16.2.2.2.1 1 fun v30 =>
pLoad1 h17 v30 fun v31 =>
pIdxS s16.2.2.2.2.2.2.1 s16.2.2.2.1 1 fun v32 =>
pStore h17 v32 v29 1 fun h33 =>
pIdxS s16.2.2.2.2.2.2.1 v26 1 fun v34 =>
pStore h33 v34 v31 1 fun h35 =>
joinC (α := AV × AV × AV × AV × AV × Unit → AH → List Nat → R) (fun s36 h37 d38 =>
pInt .sub s36.2.2.1 s36.2.1 fun v40 =>
pInt .geq v40 (.int .i64 (.ofNat 2)) fun v41 =>
pCond v41 (
pInt .add s36.2.1 (.int .i64 (.ofNat 1)) fun v42 =>
joinC (α := AV × AV × AV × AV × AV × Unit → AH → List Nat → R) (fun s43 h44 d45 =>
j9 (s43.1, s43.2.1, s43.2.2.1, s43.2.2.2.1, s43.2.2.2.2.1, ()) h44 d45) fun j46 =>
loopC (σ := AV × AV × AV × AV × AV × AV × Unit) NN (fun i50 s47 h48 d49 =>
pInt .lss s47.1 s47.2.2.2.1 fun v51 =>
pCond v51 (
pIdxS s47.2.2.2.2.2.1 s47.1 1 fun v52 =>
pLoad1 h48 v52 fun v53 =>
pInt .sub s47.1 (.int .i64 (.ofNat 1)) fun v54 =>
pIdxS s47.2.2.2.2.2.1 v54 1 fun v55 =>
pLoad1 h48 v55 fun v56 =>
pCall c (.fn 208 [] []) [v53, v56] h48 fun v57 h58 =>
pUn .not v57 fun v59 =>
pCond v59 (
j46 (s47.2.1, s47.2.2.1, s47.2.2.2.1, s47.2.2.2.2.1, s47.2.2.2.2.2.1, ()) h58 d49) (
pInt .sub s47.1 (.int .i64 (.ofNat 1)) fun v60 =>
pInt .sub s47.1 (.int .i64 (.ofNat 1)) fun v61 =>
pIdxS s47.2.2.2.2.2.1 v61 1 fun v62 =>
pLoad1 h58 v62 fun v63 =>
pIdxS s47.2.2.2.2.2.1 s47.1 1 fun v64 =>
pLoad1 h58 v64 fun v65 =>
pIdxS s47.2.2.2.2.2.1 s47.1 1 fun v66 =>
pStore h58 v66 v63 1 fun h67 =>
pIdxS s47.2.2.2.2.2.1 v60 1 fun v68 =>
pStore h67 v68 v65 1 fun h69 =>
pInt .add s47.1 (.int .i64 (.ofNat 1)) fun v70 =>
i50 (v70, s47.2.1, s47.2.2.1, s47.2.2.2.1, s47.2.2.2.2.1, s47.2.2.2.2.2.1, ()) h69 d49)) (
j46 (s47.2.1, s47.2.2.1, s47.2.2.2.1, s47.2.2.2.2.1, s47.2.2.2.2.2.1, ()) h48 d49)) (v42, s36.1, s36.2.1, s36.2.2.1, s36.2.2.2.1, s36.2.2.2.2.1, ()) h37 d38) (
j9 (s36.1, s36.2.1, s36.2.2.1, s36.2.2.2.1, s36.2.2.2.2.1, ()) h37 d38)) fun j39 =>
pInt .sub s16.2.2.2.1 s16.2.2.2.2.2.1 fun v71 =>
pInt .geq v71 (.int .i64 (.ofNat 2)) fun v72 =>
pCond v72 (
pInt .sub s16.2.2.2.1 (.int .i64 (.ofNat 1)) fun v73 =>
joinC (α := AV × AV × AV × AV × AV × Unit → AH → List Nat → R) (fun s74 h75 d76 =>
j39 (s74.1, s74.2.1, s74.2.2.1, s74.2.2.2.1, s74.2.2.2.2.1, ()) h75 d76) fun j77 =>
loopC (σ := AV × AV × AV × AV × AV × AV × Unit) NN (fun i81 s78 h79 d80 =>
pInt .geq s78.1 (.int .i64 (.ofNat 1)) fun v82 =>
pCond v82 (
pIdxS s78.2.2.2.2.2.1 s78.1 1 fun v83 =>
pLoad1 h79 v83 fun v84 =>
pInt .sub s78.1 (.int .i64 (.ofNat 1)) fun v85 =>
pIdxS s78.2.2.2.2.2.1 v85 1 fun v86 =>
pLoad1 h79 v86 fun v87 =>
pCall c (.fn 208 [] []) [v84, v87] h79 fun v88 h89 =>
pUn .not v88 fun v90 =>
pCond v90 (
j77 (s78.2.1, s78.2.2.1, s78.2.2.2.1, s78.2.2.2.2.1, s78.2.2.2.2.2.1, ()) h89 d80) (
pInt .sub s78.1 (.int .i64 (.ofNat 1)) fun v91 =>
pInt .sub s78.1 (.int .i64 (.ofNat 1)) fun v92 =>
pIdxS s78.2.2.2.2.2.1 v92 1 fun v93 =>
pLoad1 h89 v93 fun v94 =>
pIdxS s78.2.2.2.2.2.1 s78.1 1 fun v95 =>
pLoad1 h89 v95 fun v96 =>
pIdxS s78.2.2.2.2.2.1 s78.1 1 fun v97 =>
pStore h89 v97 v94 1 fun h98 =>
pIdxS s78.2.2.2.2.2.1 v91 1 fun v99 =>
pStore h98 v99 v96 1 fun h100 =>
pInt .sub s78.1 (.int .i64 (.ofNat 1)) fun v101 =>
i81 (v101, s78.2.1, s78.2.2.1, s78.2.2.2.1, s78.2.2.2.2.1, s78.2.2.2.2.2.1, ()) h100 d80)) (
j77 (s78.2.1, s78.2.2.1, s78.2.2.2.1, s78.2.2.2.2.1, s78.2.2.2.2.2.1, ()) h79 d80)) (v73, s16.2.2.1, s16.2.2.2.1, s16.2.2.2.2.1, s16.2.2.2.2.2.1, s16.2.2.2.2.2.2.1, ()) h35 d13) (
j39 (s16.2.2.1, s16.2.2.2.1, s16.2.2.2.2.1, s16.2.2.2.2.2.1, s16.2.2.2.2.2.2.1, ()) h35 d13))))) fun j18 =>
pWant v15 true (
pIdxS s11.2.2.2.2.1 s11.2.1 1 fun v102 =>
pLoad1 h12 v102 fun v103 =>
pInt .sub s11.2.1 (.int .i64 (.ofNat 1)) fun v104 =>
pIdxS s11.2.2.2.2.1 v104 1 fun v105 =>
pLoad1 h12 v105 fun v106 =>
pCall c (.fn 208 [] []) [v103, v106] h12 fun v107 h108 =>
pUn .not v107 fun v109 =>
j18 (v109, v15, s11.1, s11.2.1, s11.2.2.1, s11.2.2.2.1, s11.2.2.2.2.1, ()) h108) (
j18 (.undef, v15, s11.1, s11.2.1, s11.2.2.1, s11.2.2.2.1, s11.2.2.2.2.1, ()) h12)) (s1.1, s1.2.1, s1.2.2.1, s1.2.2.2.1, s1.2.2.2.2.1, ()) h2 d3) (
pLeave d3 h2 fun h110 =>
some ((.bool false), h110))) ((.int .i64 (.ofNat 0)), v0, a2, a1, a0, ()) h []
theorem S207_eq (c : CV) (a0 a1 a2 : AV) (h : AH) : enterK Tryz.prog NN P207 c 207 [a0, a1, a2] h = S207 c a0 a1 a2 h := by kernel_rfl
def W207 (c : CV) (l : List AV) (h : AH) : R := match l with | [a0, a1, a2] => S207 c a0 a1 a2 h | _ => none
theorem W207_ok : WOk Tryz.prog 207 W207 := by
  intro c l h r e
  unfold W207 at e
  split at e
  · exact ⟨P207, by rw [S207_eq]; exact e⟩
  · cases e
/- cmp.Less[int] -/
def P208 : Pl := (.n none .z (.n none (.r [[10, 7, 1, 0], [15, 12]]) .z))
def S208 (c : CV) (a0 a1 : AV) (h : AH) : R :=
pCall c (.fn 274 [] []) [a0] h fun v0 h1 =>
joinC (α := AV × AV × AV × AV × Unit → AH → R) (fun s2 h3 =>
pPick s2.2.1 s2.1 (.bool false) fun v5 =>
joinC (α := AV × AV × Unit → AH → R) (fun s6 h7 =>
pPick s6.2.1 (.bool true) s6.1 fun v9 =>
some (v9, h7)) fun j8 =>
pWant v5 false (
pInt .lss s2.2.2.2.1 s2.2.2.1 fun v10 =>
j8 (v10, v5, ()) h3) (
j8 (.undef, v5, ()) h3)) fun j4 =>
pWant v0 true (
pCall c (.fn 274 [] []) [a1] h1 fun v11 h12 =>
pUn .not v11 fun v13 =>
j4 (v13, v0, a1, a0, ()) h12) (
j4 (.undef, v0, a1, a0, ()) h1)
theorem S208_eq (c : CV) (a0 a1 : AV) (h : AH) : enterK Tryz.prog NN P208 c 208 [a0, a1] h = S208 c a0 a1 h := by kernel_rfl
def W208 (c : CV) (l : List AV) (h : AH) : R := match l with | [a0, a1] => S208 c a0 a1 h | _ => none
theorem W208_ok : WOk Tryz.prog 208 W208 := by
  intro c l h r e
  unfold W208 at e
  split at e
  · exact ⟨P208, by rw [S208_eq]; exact e⟩
  · cases e
/- slices.partitionEqualOrdered[int] -/
def P209 : Pl := (.n none .z (.n none .z (.n none .z (.n none (.n none (.n (some [10, 9, 1, 0]) (.n none (.n none (.n none (.n (some [10, 9, 1, 0]) (.n none (.n none (.r [[42, 32, 10, 9, 1, 0]]) .z) .z) .z) .z) (.n none (.n none (.n (some [10, 9, 1, 0]) (.n none (.n none (.r [[58, 49, 10, 9, 1, 0]]) .z) .z) .z) .z) .z)) .z) .z) .z) .z))))
def S209 (c : CV) (a0 a1 a2 a3 : AV) (h : AH) : R :=
pIdxS a0 a3 1 fun v0 =>
pLoad1 h v0 fun v1 =>
pIdxS a0 a1 1 fun v2 =>
pLoad1 h v2 fun v3 =>
pIdxS a0 a1 1 fun v4 =>
pStore h v4 v1 1 fun h5 =>
pIdxS a0 a3 1 fun v6 =>
pStore h5 v6 v3 1 fun h7 =>
pInt .add a1 (.int .i64 (.ofNat 1)) fun v8 =>
pInt .sub a2 (.int .i64 (.ofNat 1)) fun v9 =>
loopC (σ := AV × AV × AV × AV × Unit) NN (fun i13 s10 h11 d12 =>
loopC (σ := AV × AV × AV × AV × Unit) NN (fun i17 s14 h15 d16 =>
pInt .leq s14.2.1 s14.1 fun v18 =>
joinC (α := AV × AV × AV × AV × AV × AV × Unit → AH → R) (fun s19 h20 =>
pPick s19.2.1 s19.1 (.bool false) fun v22 =>
pCond v22 (
pInt .add s19.2.2.2.1 (.int .i64 (.ofNat 1)) fun v23 =>
i17 (s19.2.2.1, v23, s19.2.2.2.2.1, s19.2.2.2.2.2.1, ()) h20 d16) (
loopC (σ := AV × AV × AV × AV × Unit) NN (fun i27 s24 h25 d26 =>
pInt .leq s24.2.1 s24.1 fun v28 =>
joinC (α := AV × AV × AV × AV × AV × AV × Unit → AH → R) (fun s29 h30 =>
pPick s29.2.1 s29.1 (.bool false) fun v32 =>
pCond v32 (
pInt .sub s29.2.2.1 (.int .i64 (.ofNat 1)) fun v33 =>
i27 (v33, s29.2.2.2.1, s29.2.2.2.2.1, s29.2.2.2.2.2.1, ()) h30 d26) (
pInt .gtr s29.2.2.2.1 s29.2.2.1 fun v34 =>
pCond v34 (
pLeave d26 h30 fun h35 =>
some (s29.2.2.2.1, h35)) (
pIdxS s29.2.2.2.2.2.1 s29.2.2.1 1 fun v36 =>
pLoad1 h30 v36 fun v37 =>
pIdxS s29.2.2.2.2.2.1 s29.2.2.2.1 1 fun v38 =>
pLoad1 h30 v38 fun v39 =>
pIdxS s29.2.2.2.2.2.1 s29.2.2.2.1 1 fun v40 =>
pStore h30 v40 v37 1 fun h41 =>
pIdxS s29.2.2.2.2.2.1 s29.2.2.1 1 fun v42 =>
pStore h41 v42 v39 1 fun h43 =>
pInt .add s29.2.2.2.1 (.int .i64 (.ofNat 1)) fun v44 =>
pInt .sub s29.2.2.1 (.int .i64 (.ofNat 1)) fun v45 =>
i13 (v45, v44, s29.2.2.2.2.1, s29.2.2.2.2.2.1, ()) h43 d26))) fun j31 =>
pWant v28 true (
pIdxS s24.2.2.2.1 s24.2.2.1 1 fun v46 =>
pLoad1 h25 v46 fun v47 =>
pIdxS s24.2.2.2.1 s24.1 1 fun v48 =>
pLoad1 h25 v48 fun v49 =>
pCall c (.fn 208 [] []) [v47, v49] h25 fun v50 h51 =>
j31 (v50, v28, s24.1, s24.2.1, s24.2.2.1, s24.2.2.2.1, ()) h51) (
j31 (.undef, v28, s24.1, s24.2.1, s24.2.2.1, s24.2.2.2.1, ()) h25)) (s19.2.2.1, s19.2.2.2.1, s19.2.2.2.2.1, s19.2.2.2.2.2.1, ()) h20 d16)) fun j21 =>
pWant v18 true (
pIdxS s14.2.2.2.1 s14.2.2.1 1 fun v52 =>
pLoad1 h15 v52 fun v53 =>
pIdxS s14.2.2.2.1 s14.2.1 1 fun v54 =>
pLoad1 h15 v54 fun v55 =>
pCall c (.fn 208 [] []) [v53, v55] h15 fun v56 h57 =>
pUn .not v56 fun v58 =>
j21 (v58, v18, s14.1, s14.2.1, s14.2.2.1, s14.2.2.2.1, ()) h57) (
j21 (.undef, v18, s14.1, s14.2.1, s14.2.2.1, s14.2.2.2.1, ()) h15)) (s10.1, s10.2.1, s10.2.2.1, s10.2.2.2.1, ()) h11 d12) (v9, v8, a1, a0, ()) h7 []
theorem S209_eq (c : CV) (a0 a1 a2 a3 : AV) (h : AH) : enterK Tryz.prog NN P209 c 209 [a0, a1, a2, a3] h = S209 c a0 a1 a2 a3 h := by kernel_rfl
def W209 (c : CV) (l : List AV) (h : AH) : R := match l with | [a0, a1, a2, a3] => S209 c a0 a1 a2 a3 h | _ => none
theorem W209_ok : WOk Tryz.prog 209 W209 := by
  intro c l h r e
  unfold W209 at e
  split at e
  · exact ⟨P209, by rw [S209_eq]; exact e⟩
  · cases e
/- slices.partitionOrdered[int] -/
def P210 : Pl := (.n none .z (.n none .z (.n none .z (.n none (.n none (.n (some [11, 10, 1, 0]) (.n none (.n none (.r [[42, 33, 11, 10, 1, 0]]) .z) .z) .z) .z) (.n none (.n none (.n (some [11, 10, 1, 0]) (.n none (.n none (.r [[59, 49, 11, 10, 1, 0]]) .z) .z) .z) .z) (.n none .z (.n none .z (.n none .z (.n none .z (.n none (.n none (.n (some [11, 10, 1, 0]) (.n none (.n none (.n none (.n (some [11, 10, 1, 0]) (.n none (.n none (.r [[111, 102, 11, 10, 1, 0]]) .z) .z) .z) .z) (.n none (.n none (.n (some [11, 10, 1, 0]) (.n none (.n none (.r [[128, 118, 11, 10, 1, 0]]) .z) .z) .z) .z) .z)) .z) .z) .z) .z))))))))))
def S210 (c : CV) (a0 a1 a2 a3 : AV) (h : AH) : R :=
pIdxS a0 a3 1 fun v0 =>
pLoad1 h v0 fun v1 =>
pIdxS a0 a1 1 fun v2 =>
pLoad1 h v2 fun v3 =>
pIdxS a0 a1 1 fun v4 =>
pStore h v4 v1 1 fun h5 =>
pIdxS a0 a3 1 fun v6 =>
pStore h5 v6 v3 1 fun h7 =>
pInt .add a1 (.int .i64 (.ofNat 1)) fun v8 =>
pInt .sub a2 (.int .i64 (.ofNat 1)) fun v9 =>
loopC (σ := AV × AV × AV × AV × Unit) NN (fun i13 s10 h11 d12 =>
pInt .leq s10.2.1 s10.1 fun v14 =>
joinC (α := AV × AV × AV × AV × AV × AV × Unit → AH → R) (fun s15 h16 =>
pPick s15.2.1 s15.1 (.bool false) fun v18 =>
pCond v18 (
pInt .add s15.2.2.2.1 (.int .i64 (.ofNat 1)) fun v19 =>
i13 (s15.2.2.1, v19, s15.2.2.2.2.1, s15.2.2.2.2.2.1, ()) h16 d12) (
loopC (σ := AV × AV × AV × AV × Unit) NN (fun i23 s20 h21 d22 =>
pInt .leq s20.2.1 s20.1 fun v24 =>
joinC (α := AV × AV × AV × AV × AV × AV × Unit → AH → R) (fun s25 h26 =>
pPick s25.2.1 s25.1 (.bool false) fun v28 =>
pCond v28 (
pInt .sub s25.2.2.1 (.int .i64 (.ofNat 1)) fun v29 =>
i23 (v29, s25.2.2.2.1, s25.2.2.2.2.1, s25.2.2.2.2.2.1, ()) h26 d22) (
pInt .gtr s25.2.2.2.1 s25.2.2.1 fun v30 =>
pCond v30 (
pIdxS s25.2.2.2.2.2.1 s25.2.2.2.2.1 1 fun v31 =>
pLoad1 h26 v31 fun v32 =>
pIdxS s25.2.2.2.2.2.1 s25.2.2.1 1 fun v33 =>
pLoad1 h26 v33 fun v34 =>
pIdxS s25.2.2.2.2.2.1 s25.2.2.1 1 fun v35 =>
pStore h26 v35 v32 1 fun h36 =>
pIdxS s25.2.2.2.2.2.1 s25.2.2.2.2.1 1 fun v37 =>
pStore h36 v37 v34 1 fun h38 =>
pLeave d22 h38 fun h39 =>
some ((.tup [s25.2.2.1, (.bool true)]), h39)) (
pIdxS s25.2.2.2.2.2.1 s25.2.2.1 1 fun v40 =>
pLoad1 h26 v40 fun v41 =>
pIdxS s25.2.2.2.2.2.1 s25.2.2.2.1 1 fun v42 =>
pLoad1 h26 v42 fun v43 =>
pIdxS s25.2.2.2.2.2.1 s25.2.2.2.1 1 fun v44 =>
pStore h26 v44 v41 1 fun h45 =>
pIdxS s25.2.2.2.2.2.1 s25.2.2.1 1 fun v46 =>
pStore h45 v46 v43 1 fun h47 =>
pInt .add s25.2.2.2.1 (.int .i64 (.ofNat 1)) fun v48 =>
pInt .sub s25.2.2.1 (.int .i64 (.ofNat 1)) fun v49 =>
loopC (σ := AV × AV × AV × AV × Unit) NN (fun i53 s50 h51 d52 =>
loopC (σ := AV × AV × AV × AV × Unit) NN (fun i57 s54 h55 d56 =>
pInt .leq s54.2.1 s54.1 fun v58 =>
joinC (α := AV × AV × AV × AV × AV × AV × Unit → AH → R) (fun s59 h60 =>
pPick s59.2.1 s59.1 (.bool false) fun v62 =>
pCond v62 (
pInt .add s59.2.2.2.1 (.int .i64 (.ofNat 1)) fun v63 =>
i57 (s59.2.2.1, v63, s59.2.2.2.2.1, s59.2.2.2.2.2.1, ()) h60 d56) (
loopC (σ := AV × AV × AV × AV × Unit) NN (fun i67 s64 h65 d66 =>
pInt .leq s64.2.1 s64.1 fun v68 =>
joinC (α := AV × AV × AV × AV × AV × AV × Unit → AH → R) (fun s69 h70 =>
pPick s69.2.1 s69.1 (.bool false) fun v72 =>
pCond v72 (
pInt .sub s69.2.2.1 (.int .i64 (.ofNat 1)) fun v73 =>
i67 (v73, s69.2.2.2.1, s69.2.2.2.2.1, s69.2.2.2.2.2.1, ()) h70 d66) (
pInt .gtr s69.2.2.2.1 s69.2.2.1 fun v74 =>
pCond v74 (
pIdxS s69.2.2.2.2.2.1 s69.2.2.2.2.1 1 fun v75 =>
pLoad1 h70 v75 fun v76 =>
pIdxS s69.2.2.2.2.2.1 s69.2.2.1 1 fun v77 =>
pLoad1 h70 v77 fun v78 =>
pIdxS s69.2.2.2.2.2.1 s69.2.2.1 1 fun v79 =>
pStore h70 v79 v76 1 fun h80 =>
pIdxS s69.2.2.2.2.2.1 s69.2.2.2.2.1 1 fun v81 =>
pStore h80 v81 v78 1 fun h82 =>
pLeave d66 h82 fun h83 =>
some ((.tup [s69.2.2.1, (.bool false)]), h83)) (
pIdxS s69.2.2.2.2.2.1 s69.2.2.1 1 fun v84 =>
pLoad1 h70 v84 fun v85 =>
pIdxS s69.2.2.2.2.2.1 s69.2.2.2.1 1 fun v86 =>
pLoad1 h70 v86 fun v87 =>
pIdxS s69.2.2.2.2.2.1 s69.2.2.2.1 1 fun v88 =>
pStore h70 v88 v85 1 fun h89 =>
pIdxS s69.2.2.2.2.2.1 s69.2.2.1 1 fun v90 =>
pStore h89 v90 v87 1 fun h91 =>
pInt .add s69.2.2.2.1 (.int .i64 (.ofNat 1)) fun v92 =>
pInt .sub s69.2.2.1 (.int .i64 (.ofNat 1)) fun v93 =>
i53 (v93, v92, s69.2.2.2.2.1, s69.2.2.2.2.2.1, ()) h91 d66))) fun j71 =>
pWant v68 true (
pIdxS s64.2.2.2.1 s64.1 1 fun v94 =>
pLoad1 h65 v94 fun v95 =>
pIdxS s64.2.2.2.1 s64.2.2.1 1 fun v96 =>
pLoad1 h65 v96 fun v97 =>
pCall c (.fn 208 [] []) [v95, v97] h65 fun v98 h99 =>
pUn .not v98 fun v100 =>
j71 (v100, v68, s64.1, s64.2.1, s64.2.2.1, s64.2.2.2.1, ()) h99) (
j71 (.undef, v68, s64.1, s64.2.1, s64.2.2.1, s64.2.2.2.1, ()) h65)) (s59.2.2.1, s59.2.2.2.1, s59.2.2.2.2.1, s59.2.2.2.2.2.1, ()) h60 d56)) fun j61 =>
pWant v58 true (
pIdxS s54.2.2.2.1 s54.2.1 1 fun v101 =>
pLoad1 h55 v101 fun v102 =>
pIdxS s54.2.2.2.1 s54.2.2.1 1 fun v103 =>
pLoad1 h55 v103 fun v104 =>
pCall c (.fn 208 [] []) [v102, v104] h55 fun v105 h106 =>
j61 (v105, v58, s54.1, s54.2.1, s54.2.2.1, s54.2.2.2.1, ()) h106) (
j61 (.undef, v58, s54.1, s54.2.1, s54.2.2.1, s54.2.2.2.1, ()) h55)) (s50.1, s50.2.1, s50.2.2.1, s50.2.2.2.1, ()) h51 d52) (v49, v48, s25.2.2.2.2.1, s25.2.2.2.2.2.1, ()) h47 d22))) fun j27 =>
pWant v24 true (
pIdxS s20.2.2.2.1 s20.1 1 fun v107 =>
pLoad1 h21 v107 fun v108 =>
pIdxS s20.2.2.2.1 s20.2.2.1 1 fun v109 =>
pLoad1 h21 v109 fun v110 =>
pCall c (.fn 208 [] []) [v108, v110] h21 fun v111 h112 =>
pUn .not v111 fun v113 =>
j27 (v113, v24, s20.1, s20.2.1, s20.2.2.1, s20.2.2.2.1, ()) h112) (
j27 (.undef, v24, s20.1, s20.2.1, s20.2.2.1, s20.2.2.2.1, ()) h21)) (s15.2.2.1, s15.2.2.2.1, s15.2.2.2.2.1, s15.2.2.2.2.2.1, ()) h16 d12)) fun j17 =>
pWant v14 true (
pIdxS s10.2.2.2.1 s10.2.1 1 fun v114 =>
pLoad1 h11 v114 fun v115 =>
pIdxS s10.2.2.2.1 s10.2.2.1 1 fun v116 =>
pLoad1 h11 v116 fun v117 =>
pCall c (.fn 208 [] []) [v115, v117] h11 fun v118 h119 =>
j17 (v118, v14, s10.1, s10.2.1, s10.2.2.1, s10.2.2.2.1, ()) h119) (
j17 (.undef, v14, s10.1, s10.2.1, s10.2.2.1, s10.2.2.2.1, ()) h11)) (v9, v8, a1, a0, ()) h7 []
theorem S210_eq (c : CV) (a0 a1 a2 a3 : AV) (h : AH) : enterK Tryz.prog NN P210 c 210 [a0, a1, a2, a3] h = S210 c a0 a1 a2 a3 h := by kernel_rfl
def W210 (c : CV) (l : List AV) (h : AH) : R := match l with | [a0, a1, a2, a3] => S210 c a0 a1 a2 a3 h | _ => none
theorem W210_ok : WOk Tryz.prog 210 W210 := by
  intro c l h r e
  unfold W210 at e
  split at e
  · exact ⟨P210, by rw [S210_eq]; exact e⟩
  · cases e
/- math/bits.Len32 -/
def P211 : Pl := (.n none .z (.n (some [2, 0]) .z (.n (some [2, 0]) .z .z)))
def S211 (_ : CV) (a0 : AV) (h : AH) : R :=
joinC (α := AV × AV × Unit → AH → List Nat → R) (fun s0 h1 d2 =>
joinC (α := AV × AV × Unit → AH → List Nat → R) (fun s4 h5 d6 =>
pConvI .u8 s4.2.1 fun v8 =>
pIdxStr (.str [0, 1, 2, 2, 3, 3, 3, 3, 4, 4, 4, 4, 4, 4, 4, 4, 5, 5, 5, 5, 5, 5, 5, 5, 5, 5, 5, 5, 5, 5, 5, 5, 6, 6, 6, 6, 6, 6, 6, 6, 6, 6, 6, 6, 6, 6, 6, 6, 6, 6, 6, 6, 6, 6, 6, 6, 6, 6, 6, 6, 6, 6, 6, 6, 7, 7, 7, 7, 7, 7, 7, 7, 7, 7, 7, 7, 7, 7, 7, 7, 7, 7, 7, 7, 7, 7, 7, 7, 7, 7, 7, 7, 7, 7, 7, 7, 7, 7, 7, 7, 7, 7, 7, 7, 7, 7, 7, 7, 7, 7, 7, 7, 7, 7, 7, 7, 7, 7, 7, 7, 7, 7, 7, 7, 7, 7, 7, 7, 8, 8, 8, 8, 8, 8, 8, 8, 8, 8, 8, 8, 8, 8, 8, 8, 8, 8, 8, 8, 8, 8, 8, 8, 8, 8, 8, 8, 8, 8, 8, 8, 8, 8, 8, 8, 8, 8, 8, 8, 8, 8, 8, 8, 8, 8, 8, 8, 8, 8, 8, 8, 8, 8, 8, 8, 8, 8, 8, 8, 8, 8, 8, 8, 8, 8, 8, 8, 8, 8, 8, 8, 8, 8, 8, 8, 8, 8, 8, 8, 8, 8, 8, 8, 8, 8, 8, 8, 8, 8, 8, 8, 8, 8, 8, 8, 8, 8, 8, 8, 8, 8, 8, 8, 8, 8, 8, 8, 8, 8, 8, 8, 8, 8, 8, 8, 8, 8, 8, 8, 8, 8, 8, 8, 8, 8, 8, 8]) v8 fun v9 =>
pConvI .i64 v9 fun v10 =>
pInt .add s4.1 v10 fun v11 =>
pLeave d6 h5 fun h12 =>
some (v11, h12)) fun j7 =>
pInt .geq s0.2.1 (.int .u32 (.ofNat 256)) fun v13 =>
pCond v13 (
pShift .shr s0.2.1 (.int .u64 (.ofNat 8)) fun v14 =>
pInt .add s0.1 (.int .i64 (.ofNat 8)) fun v15 =>
j7 (v15, v14, ()) h1 d2) (
j7 (s0.1, s0.2.1, ()) h1 d2)) fun j3 =>
pInt .geq a0 (.int .u32 (.ofNat 65536)) fun v16 =>
pCond v16 (
pShift .shr a0 (.int .u64 (.ofNat 16)) fun v17 =>
j3 ((.int .i64 (.ofNat 16)), v17, ()) h []) (
j3 ((.int .i64 (.ofNat 0)), a0, ()) h [])
theorem S211_eq (c : CV) (a0 : AV) (h : AH) : enterK Tryz.prog NN P211 c 211 [a0] h = S211 c a0 h := by kernel_rfl
def W211 (c : CV) (l : List AV) (h : AH) : R := match l with | [a0] => S211 c a0 h | _ => none
theorem W211_ok : WOk Tryz.prog 211 W211 := by
  intro c l h r e
  unfold W211 at e
  split at e
  · exact ⟨P211, by rw [S211_eq]; exact e⟩
  · cases e
/- math/bits.Len64 -/
def P212 : Pl := (.n none .z (.n (some [2, 0]) .z (.n (some [2, 0]) .z (.n (some [2, 0]) .z .z))))
def S212 (_ : CV) (a0 : AV) (h : AH) : R :=
joinC (α := AV × AV × Unit → AH → List Nat → R) (fun s0 h1 d2 =>
joinC (α := AV × AV × Unit → AH → List Nat → R) (fun s4 h5 d6 =>
joinC (α := AV × AV × Unit → AH → List Nat → R) (fun s8 h9 d10 =>
pConvI .u8 s8.2.1 fun v12 =>
pIdxStr (.str [0, 1, 2, 2, 3, 3, 3, 3, 4, 4, 4, 4, 4, 4, 4, 4, 5, 5, 5, 5, 5, 5, 5, 5, 5, 5, 5, 5, 5, 5, 5, 5, 6, 6, 6, 6, 6, 6, 6, 6, 6, 6, 6, 6, 6, 6, 6, 6, 6, 6, 6, 6, 6, 6, 6, 6, 6, 6, 6, 6, 6, 6, 6, 6, 7, 7, 7, 7, 7, 7, 7, 7, 7, 7, 7, 7, 7, 7, 7, 7, 7, 7, 7, 7, 7, 7, 7, 7, 7, 7, 7, 7, 7, 7, 7, 7, 7, 7, 7, 7, 7, 7, 7, 7, 7, 7, 7, 7, 7, 7, 7, 7, 7, 7, 7, 7, 7, 7, 7, 7, 7, 7, 7, 7, 7, 7, 7, 7, 8, 8, 8, 8, 8, 8, 8, 8, 8, 8, 8, 8, 8, 8, 8, 8, 8, 8, 8, 8, 8, 8, 8, 8, 8, 8, 8, 8, 8, 8, 8, 8, 8, 8, 8, 8, 8, 8, 8, 8, 8, 8, 8, 8, 8, 8, 8, 8, 8, 8, 8, 8, 8, 8, 8, 8, 8, 8, 8, 8, 8, 8, 8, 8, 8, 8, 8, 8, 8, 8, 8, 8, 8, 8, 8, 8, 8, 8, 8, 8, 8, 8, 8, 8, 8, 8, 8, 8, 8, 8, 8, 8, 8, 8, 8, 8, 8, 8, 8, 8, 8, 8, 8, 8, 8, 8, 8, 8, 8, 8, 8, 8, 8, 8, 8, 8, 8, 8, 8, 8, 8, 8, 8, 8, 8, 8, 8, 8]) v12 fun v13 =>
pConvI .i64 v13 fun v14 =>
pInt .add s8.1 v14 fun v15 =>
pLeave d10 h9 fun h16 =>
some (v15, h16)) fun j11 =>
pInt .geq s4.2.1 (.int .u64 (.ofNat 256)) fun v17 =>
pCond v17 (
pShift .shr s4.2.1 (.int .u64 (.ofNat 8)) fun v18 =>
pInt .add s4.1 (.int .i64 (.ofNat 8)) fun v19 =>
j11 (v19, v18, ()) h5 d6) (
j11 (s4.1, s4.2.1, ()) h5 d6)) fun j7 =>
pInt .geq s0.2.1 (.int .u64 (.ofNat 65536)) fun v20 =>
pCond v20 (
pShift .shr s0.2.1 (.int .u64 (.ofNat 16)) fun v21 =>
pInt .add s0.1 (.int .i64 (.ofNat 16)) fun v22 =>
j7 (v22, v21, ()) h1 d2) (
j7 (s0.1, s0.2.1, ()) h1 d2)) fun j3 =>
pInt .geq a0 (.int .u64 (.ofNat 4294967296)) fun v23 =>
pCond v23 (
pShift .shr a0 (.int .u64 (.ofNat 32)) fun v24 =>
j3 ((.int .i64 (.ofNat 32)), v24, ()) h []) (
j3 ((.int .i64 (.ofNat 0)), a0, ()) h [])
theorem S212_eq (c : CV) (a0 : AV) (h : AH) : enterK Tryz.prog NN P212 c 212 [a0] h = S212 c a0 h := by kernel_rfl
def W212 (c : CV) (l : List AV) (h : AH) : R := match l with | [a0] => S212 c a0 h | _ => none
theorem W212_ok : WOk Tryz.prog 212 W212 := by
  intro c l h r e
  unfold W212 at e
  split at e
  · exact ⟨P212, by rw [S212_eq]; exact e⟩
  · cases e
/- internal/strconv.small -/
def P213 : Pl := .z
def S213 (_ : CV) (a0 : AV) (h : AH) : R :=
pInt .lss a0 (.int .i64 (.ofNat 10)) fun v0 =>
pCond v0 (
pInt .add a0 (.int .i64 (.ofNat 1)) fun v1 =>
pSliceS (.str [48, 49, 50, 51, 52, 53, 54, 55, 56, 57, 97, 98, 99, 100, 101, 102, 103, 104, 105, 106, 107, 108, 109, 110, 111, 112, 113, 114, 115, 116, 117, 118, 119, 120, 121, 122]) (some a0) (some v1) fun v2 =>
some (v2, h)) (
pInt .mul a0 (.int .i64 (.ofNat 2)) fun v3 =>
pInt .mul a0 (.int .i64 (.ofNat 2)) fun v4 =>
pInt .add v4 (.int .i64 (.ofNat 2)) fun v5 =>
pSliceS (.str [48, 48, 48, 49, 48, 50, 48, 51, 48, 52, 48, 53, 48, 54, 48, 55, 48, 56, 48, 57, 49, 48, 49, 49, 49, 50, 49, 51, 49, 52, 49, 53, 49, 54, 49, 55, 49, 56, 49, 57, 50, 48, 50, 49, 50, 50, 50, 51, 50, 52, 50, 53, 50, 54, 50, 55, 50, 56, 50, 57, 51, 48, 51, 49, 51, 50, 51, 51, 51, 52, 51, 53, 51, 54, 51, 55, 51, 56, 51, 57, 52, 48, 52, 49, 52, 50, 52, 51, 52, 52, 52, 53, 52, 54, 52, 55, 52, 56, 52, 57, 53, 48, 53, 49, 53, 50, 53, 51, 53, 52, 53, 53, 53, 54, 53, 55, 53, 56, 53, 57, 54, 48, 54, 49, 54, 50, 54, 51, 54, 52, 54, 53, 54, 54, 54, 55, 54, 56, 54, 57, 55, 48, 55, 49, 55, 50, 55, 51, 55, 52, 55, 53, 55, 54, 55, 55, 55, 56, 55, 57, 56, 48, 56, 49, 56, 50, 56, 51, 56, 52, 56, 53, 56, 54, 56, 55, 56, 56, 56, 57, 57, 48, 57, 49, 57, 50, 57, 51, 57, 52, 57, 53, 57, 54, 57, 55, 57, 56, 57, 57]) (some v3) (some v5) fun v6 =>
some (v6, h))
theorem S213_eq (c : CV) (a0 : AV) (h : AH) : enterK Tryz.prog NN P213 c 213 [a0] h = S213 c a0 h := by kernel_rfl
def W213 (c : CV) (l : List AV) (h : AH) : R := match l with | [a0] => S213 c a0 h | _ => none
theorem W213_ok : WOk Tryz.prog 213 W213 := by
  intro c l h r e
  unfold W213 at e
  split at e
  · exact ⟨P213, by rw [S213_eq]; exact e⟩
  · cases e
/- internal/strconv.numDigits -/
def P214 : Pl := .z
def S214 (c : CV) (a0 : AV) (h : AH) : R :=
pCall c (.fn 212 [] []) [a0] h fun v0 h1 =>
pCall c (.fn 275 [] []) [v0] h1 fun _ _ =>
none /- op -/
theorem S214_eq (c : CV) (a0 : AV) (h : AH) : enterK Tryz.prog NN P214 c 214 [a0] h = S214 c a0 h := by kernel_rfl
def W214 (c : CV) (l : List AV) (h : AH) : R := match l with | [a0] => S214 c a0 h | _ => none
theorem W214_ok : WOk Tryz.prog 214 W214 := by
  intro c l h r e
  unfold W214 at e
  split at e
  · exact ⟨P214, by rw [S214_eq]; exact e⟩
  · cases e
/- internal/strconv.formatBase10 -/
def P215 : Pl := (.n none .z (.n none (.n none (.n (some [4, 1, 0]) .z .z) .z) (.n none .z (.n (some [12, 4, 0]) .z (.n (some [12, 4, 0]) .z .z)))))
def S215 (_ : CV) (a0 a1 : AV) (h : AH) : R :=
pLenS a0 fun v0 =>
loopC (σ := AV × AV × AV × Unit) NN (fun i4 s1 h2 d3 =>
pInt .geq s1.1 (.int .i64 (.ofNat 8)) fun v5 =>
pCond v5 (
pInt .rem s1.2.1 (.int .u64 (.ofNat 100000000)) fun v6 =>
pConvI .u32 v6 fun v7 =>
pInt .quo s1.2.1 (.int .u64 (.ofNat 100000000)) fun v8 =>
pInt .quo v7 (.int .u32 (.ofNat 10000)) fun v9 =>
pInt .rem v7 (.int .u32 (.ofNat 10000)) fun v10 =>
pInt .quo v10 (.int .u32 (.ofNat 100)) fun v11 =>
pInt .mul v11 (.int .u32 (.ofNat 2)) fun v12 =>
pInt .rem v10 (.int .u32 (.ofNat 100)) fun v13 =>
pInt .mul v13 (.int .u32 (.ofNat 2)) fun v14 =>
pInt .quo v9 (.int .u32 (.ofNat 100)) fun v15 =>
pInt .mul v15 (.int .u32 (.ofNat 2)) fun v16 =>
pInt .rem v9 (.int .u32 (.ofNat 100)) fun v17 =>
pInt .mul v17 (.int .u32 (.ofNat 2)) fun v18 =>
pInt .sub s1.1 (.int .i64 (.ofNat 1)) fun v19 =>
pInt .sub s1.1 (.int .i64 (.ofNat 2)) fun v20 =>
pInt .add v14 (.int .u32 (.ofNat 1)) fun v21 =>
pIdxStr (.str [48, 48, 48, 49, 48, 50, 48, 51, 48, 52, 48, 53, 48, 54, 48, 55, 48, 56, 48, 57, 49, 48, 49, 49, 49, 50, 49, 51, 49, 52, 49, 53, 49, 54, 49, 55, 49, 56, 49, 57, 50, 48, 50, 49, 50, 50, 50, 51, 50, 52, 50, 53, 50, 54, 50, 55, 50, 56, 50, 57, 51, 48, 51, 49, 51, 50, 51, 51, 51, 52, 51, 53, 51, 54, 51, 55, 51, 56, 51, 57, 52, 48, 52, 49, 52, 50, 52, 51, 52, 52, 52, 53, 52, 54, 52, 55, 52, 56, 52, 57, 53, 48, 53, 49, 53, 50, 53, 51, 53, 52, 53, 53, 53, 54, 53, 55, 53, 56, 53, 57, 54, 48, 54, 49, 54, 50, 54, 51, 54, 52, 54, 53, 54, 54, 54, 55, 54, 56, 54, 57, 55, 48, 55, 49, 55, 50, 55, 51, 55, 52, 55, 53, 55, 54, 55, 55, 55, 56, 55, 57, 56, 48, 56, 49, 56, 50, 56, 51, 56, 52, 56, 53, 56, 54, 56, 55, 56, 56, 56, 57, 57, 48, 57, 49, 57, 50, 57, 51, 57, 52, 57, 53, 57, 54, 57, 55, 57, 56, 57, 57]) v21 fun v22 =>
pIdxStr (.str [48, 48, 48, 49, 48, 50, 48, 51, 48, 52, 48, 53, 48, 54, 48, 55, 48, 56, 48, 57, 49, 48, 49, 49, 49, 50, 49, 51, 49, 52, 49, 53, 49, 54, 49, 55, 49, 56, 49, 57, 50, 48, 50, 49, 50, 50, 50, 51, 50, 52, 50, 53, 50, 54, 50, 55, 50, 56, 50, 57, 51, 48, 51, 49, 51, 50, 51, 51, 51, 52, 51, 53, 51, 54, 51, 55, 51, 56, 51, 57, 52, 48, 52, 49, 52, 50, 52, 51, 52, 52, 52, 53, 52, 54, 52, 55, 52, 56, 52, 57, 53, 48, 53, 49, 53, 50, 53, 51, 53, 52, 53, 53, 53, 54, 53, 55, 53, 56, 53, 57, 54, 48, 54, 49, 54, 50, 54, 51, 54, 52, 54, 53, 54, 54, 54, 55, 54, 56, 54, 57, 55, 48, 55, 49, 55, 50, 55, 51, 55, 52, 55, 53, 55, 54, 55, 55, 55, 56, 55, 57, 56, 48, 56, 49, 56, 50, 56, 51, 56, 52, 56, 53, 56, 54, 56, 55, 56, 56, 56, 57, 57, 48, 57, 49, 57, 50, 57, 51, 57, 52, 57, 53, 57, 54, 57, 55, 57, 56, 57, 57]) v14 fun v23 =>
pIdxS s1.2.2.1 v19 1 fun v24 =>
pStore h2 v24 v22 1 fun h25 =>
pIdxS s1.2.2.1 v20 1 fun v26 =>
pStore h25 v26 v23 1 fun h27 =>
pInt .sub s1.1 (.int .i64 (.ofNat 3)) fun v28 =>
pInt .sub s1.1 (.int .i64 (.ofNat 4)) fun v29 =>
pInt .add v12 (.int .u32 (.ofNat 1)) fun v30 =>
pIdxStr (.str [48, 48, 48, 49, 48, 50, 48, 51, 48, 52, 48, 53, 48, 54, 48, 55, 48, 56, 48, 57, 49, 48, 49, 49, 49, 50, 49, 51, 49, 52, 49, 53, 49, 54, 49, 55, 49, 56, 49, 57, 50, 48, 50, 49, 50, 50, 50, 51, 50, 52, 50, 53, 50, 54, 50, 55, 50, 56, 50, 57, 51, 48, 51, 49, 51, 50, 51, 51, 51, 52, 51, 53, 51, 54, 51, 55, 51, 56, 51, 57, 52, 48, 52, 49, 52, 50, 52, 51, 52, 52, 52, 53, 52, 54, 52, 55, 52, 56, 52, 57, 53, 48, 53, 49, 53, 50, 53, 51, 53, 52, 53, 53, 53, 54, 53, 55, 53, 56, 53, 57, 54, 48, 54, 49, 54, 50, 54, 51, 54, 52, 54, 53, 54, 54, 54, 55, 54, 56, 54, 57, 55, 48, 55, 49, 55, 50, 55, 51, 55, 52, 55, 53, 55, 54, 55, 55, 55, 56, 55, 57, 56, 48, 56, 49, 56, 50, 56, 51, 56, 52, 56, 53, 56, 54, 56, 55, 56, 56, 56, 57, 57, 48, 57, 49, 57, 50, 57, 51, 57, 52, 57, 53, 57, 54, 57, 55, 57, 56, 57, 57]) v30 fun v31 =>
pIdxStr (.str [48, 48, 48, 49, 48, 50, 48, 51, 48, 52, 48, 53, 48, 54, 48, 55, 48, 56, 48, 57, 49, 48, 49, 49, 49, 50, 49, 51, 49, 52, 49, 53, 49, 54, 49, 55, 49, 56, 49, 57, 50, 48, 50, 49, 50, 50, 50, 51, 50, 52, 50, 53, 50, 54, 50, 55, 50, 56, 50, 57, 51, 48, 51, 49, 51, 50, 51, 51, 51, 52, 51, 53, 51, 54, 51, 55, 51, 56, 51, 57, 52, 48, 52, 49, 52, 50, 52, 51, 52, 52, 52, 53, 52, 54, 52, 55, 52, 56, 52, 57, 53, 48, 53, 49, 53, 50, 53, 51, 53, 52, 53, 53, 53, 54, 53, 55, 53, 56, 53, 57, 54, 48, 54, 49, 54, 50, 54, 51, 54, 52, 54, 53, 54, 54, 54, 55, 54, 56, 54, 57, 55, 48, 55, 49, 55, 50, 55, 51, 55, 52, 55, 53, 55, 54, 55, 55, 55, 56, 55, 57, 56, 48, 56, 49, 56, 50, 56, 51, 56, 52, 56, 53, 56, 54, 56, 55, 56, 56, 56, 57, 57, 48, 57, 49, 57, 50, 57, 51, 57, 52, 57, 53, 57, 54, 57, 55, 57, 56, 57, 57]) v12 fun v32 =>
pIdxS s1.2.2.1 v28 1 fun v33 =>
pStore h27 v33 v31 1 fun h34 =>
pIdxS s1.2.2.1 v29 1 fun v35 =>
pStore h34 v35 v32 1 fun h36 =>
pInt .sub s1.1 (.int .i64 (.ofNat 5)) fun v37 =>
pInt .sub s1.1 (.int .i64 (.ofNat 6)) fun v38 =>
pInt .add v18 (.int .u32 (.ofNat 1)) fun v39 =>
pIdxStr (.str [48, 48, 48, 49, 48, 50, 48, 51, 48, 52, 48, 53, 48, 54, 48, 55, 48, 56, 48, 57, 49, 48, 49, 49, 49, 50, 49, 51, 49, 52, 49, 53, 49, 54, 49, 55, 49, 56, 49, 57, 50, 48, 50, 49, 50, 50, 50, 51, 50, 52, 50, 53, 50, 54, 50, 55, 50, 56, 50, 57, 51, 48, 51, 49, 51, 50, 51, 51, 51, 52, 51, 53, 51, 54, 51, 55, 51, 56, 51, 57, 52, 48, 52, 49, 52, 50, 52, 51, 52, 52, 52, 53, 52, 54, 52, 55, 52, 56, 52, 57, 53, 48, 53, 49, 53, 50, 53, 51, 53, 52, 53, 53, 53, 54, 53, 55, 53, 56, 53, 57, 54, 48, 54, 49, 54, 50, 54, 51, 54, 52, 54, 53, 54, 54, 54, 55, 54, 56, 54, 57, 55, 48, 55, 49, 55, 50, 55, 51, 55, 52, 55, 53, 55, 54, 55, 55, 55, 56, 55, 57, 56, 48, 56, 49, 56, 50, 56, 51, 56, 52, 56, 53, 56, 54, 56, 55, 56, 56, 56, 57, 57, 48, 57, 49, 57, 50, 57, 51, 57, 52, 57, 53, 57, 54, 57, 55, 57, 56, 57, 57]) v39 fun v40 =>
pIdxStr (.str [48, 48, 48, 49, 48, 50, 48, 51, 48, 52, 48, 53, 48, 54, 48, 55, 48, 56, 48, 57, 49, 48, 49, 49, 49, 50, 49, 51, 49, 52, 49, 53, 49, 54, 49, 55, 49, 56, 49, 57, 50, 48, 50, 49, 50, 50, 50, 51, 50, 52, 50, 53, 50, 54, 50, 55, 50, 56, 50, 57, 51, 48, 51, 49, 51, 50, 51, 51, 51, 52, 51, 53, 51, 54, 51, 55, 51, 56, 51, 57, 52, 48, 52, 49, 52, 50, 52, 51, 52, 52, 52, 53, 52, 54, 52, 55, 52, 56, 52, 57, 53, 48, 53, 49, 53, 50, 53, 51, 53, 52, 53, 53, 53, 54, 53, 55, 53, 56, 53, 57, 54, 48, 54, 49, 54, 50, 54, 51, 54, 52, 54, 53, 54, 54, 54, 55, 54, 56, 54, 57, 55, 48, 55, 49, 55, 50, 55, 51, 55, 52, 55, 53, 55, 54, 55, 55, 55, 56, 55, 57, 56, 48, 56, 49, 56, 50, 56, 51, 56, 52, 56, 53, 56, 54, 56, 55, 56, 56, 56, 57, 57, 48, 57, 49, 57, 50, 57, 51, 57, 52, 57, 53, 57, 54, 57, 55, 57, 56, 57, 57]) v18 fun v41 =>
pIdxS s1.2.2.1 v37 1 fun v42 =>
pStore h36 v42 v40 1 fun h43 =>
pIdxS s1.2.2.1 v38 1 fun v44 =>
pStore h43 v44 v41 1 fun h45 =>
pInt .sub s1.1 (.int .i64 (.ofNat 7)) fun v46 =>
pInt .sub s1.1 (.int .i64 (.ofNat 8)) fun v47 =>
pInt .add v16 (.int .u32 (.ofNat 1)) fun v48 =>
pIdxStr (.str [48, 48, 48, 49, 48, 50, 48, 51, 48, 52, 48, 53, 48, 54, 48, 55, 48, 56, 48, 57, 49, 48, 49, 49, 49, 50, 49, 51, 49, 52, 49, 53, 49, 54, 49, 55, 49, 56, 49, 57, 50, 48, 50, 49, 50, 50, 50, 51, 50, 52, 50, 53, 50, 54, 50, 55, 50, 56, 50, 57, 51, 48, 51, 49, 51, 50, 51, 51, 51, 52, 51, 53, 51, 54, 51, 55, 51, 56, 51, 57, 52, 48, 52, 49, 52, 50, 52, 51, 52, 52, 52, 53, 52, 54, 52, 55, 52, 56, 52, 57, 53, 48, 53, 49, 53, 50, 53, 51, 53, 52, 53, 53, 53, 54, 53, 55, 53, 56, 53, 57, 54, 48, 54, 49, 54, 50, 54, 51, 54, 52, 54, 53, 54, 54, 54, 55, 54, 56, 54, 57, 55, 48, 55, 49, 55, 50, 55, 51, 55, 52, 55, 53, 55, 54, 55, 55, 55, 56, 55, 57, 56, 48, 56, 49, 56, 50, 56, 51, 56, 52, 56, 53, 56, 54, 56, 55, 56, 56, 56, 57, 57, 48, 57, 49, 57, 50, 57, 51, 57, 52, 57, 53, 57, 54, 57, 55, 57, 56, 57, 57]) v48 fun v49 =>
pIdxStr (.str [48, 48, 48, 49, 48, 50, 48, 51, 48, 52, 48, 53, 48, 54, 48, 55, 48, 56, 48, 57, 49, 48, 49, 49, 49, 50, 49, 51, 49, 52, 49, 53, 49, 54, 49, 55, 49, 56, 49, 57, 50, 48, 50, 49, 50, 50, 50, 51, 50, 52, 50, 53, 50, 54, 50, 55, 50, 56, 50, 57, 51, 48, 51, 49, 51, 50, 51, 51, 51, 52, 51, 53, 51, 54, 51, 55, 51, 56, 51, 57, 52, 48, 52, 49, 52, 50, 52, 51, 52, 52, 52, 53, 52, 54, 52, 55, 52, 56, 52, 57, 53, 48, 53, 49, 53, 50, 53, 51, 53, 52, 53, 53, 53, 54, 53, 55, 53, 56, 53, 57, 54, 48, 54, 49, 54, 50, 54, 51, 54, 52, 54, 53, 54, 54, 54, 55, 54, 56, 54, 57, 55, 48, 55, 49, 55, 50, 55, 51, 55, 52, 55, 53, 55, 54, 55, 55, 55, 56, 55, 57, 56, 48, 56, 49, 56, 50, 56, 51, 56, 52, 56, 53, 56, 54, 56, 55, 56, 56, 56, 57, 57, 48, 57, 49, 57, 50, 57, 51, 57, 52, 57, 53, 57, 54, 57, 55, 57, 56, 57, 57]) v16 fun v50 =>
pIdxS s1.2.2.1 v46 1 fun v51 =>
pStore h45 v51 v49 1 fun h52 =>
pIdxS s1.2.2.1 v47 1 fun v53 =>
pStore h52 v53 v50 1 fun h54 =>
pInt .sub s1.1 (.int .i64 (.ofNat 8)) fun v55 =>
i4 (v55, v8, s1.2.2.1, ()) h54 d3) (
pConvI .u32 s1.2.1 fun v56 =>
joinC (α := AV × AV × AV × Unit → AH → List Nat → R) (fun s57 h58 d59 =>
joinC (α := AV × AV × AV × Unit → AH → List Nat → R) (fun s61 h62 d63 =>
pInt .gtr s61.2.1 (.int .i64 (.ofNat 0)) fun v65 =>
pCond v65 (
pInt .add (.int .u32 (.ofNat 48)) s61.1 fun v66 =>
pConvI .u8 v66 fun v67 =>
pIdxS s61.2.2.1 (.int .i64 (.ofNat 0)) 1 fun v68 =>
pStore h62 v68 v67 1 fun h69 =>
pLeave d63 h69 fun h70 =>
some ((.tup []), h70)) (
pLeave d63 h62 fun h71 =>
some ((.tup []), h71))) fun j64 =>
pInt .geq s57.2.1 (.int .i64 (.ofNat 2)) fun v72 =>
pCond v72 (
pInt .rem s57.1 (.int .u32 (.ofNat 100)) fun v73 =>
pInt .mul v73 (.int .u32 (.ofNat 2)) fun v74 =>
pInt .quo s57.1 (.int .u32 (.ofNat 100)) fun v75 =>
pInt .sub s57.2.1 (.int .i64 (.ofNat 1)) fun v76 =>
pInt .sub s57.2.1 (.int .i64 (.ofNat 2)) fun v77 =>
pInt .add v74 (.int .u32 (.ofNat 1)) fun v78 =>
pIdxStr (.str [48, 48, 48, 49, 48, 50, 48, 51, 48, 52, 48, 53, 48, 54, 48, 55, 48, 56, 48, 57, 49, 48, 49, 49, 49, 50, 49, 51, 49, 52, 49, 53, 49, 54, 49, 55, 49, 56, 49, 57, 50, 48, 50, 49, 50, 50, 50, 51, 50, 52, 50, 53, 50, 54, 50, 55, 50, 56, 50, 57, 51, 48, 51, 49, 51, 50, 51, 51, 51, 52, 51, 53, 51, 54, 51, 55, 51, 56, 51, 57, 52, 48, 52, 49, 52, 50, 52, 51, 52, 52, 52, 53, 52, 54, 52, 55, 52, 56, 52, 57, 53, 48, 53, 49, 53, 50, 53, 51, 53, 52, 53, 53, 53, 54, 53, 55, 53, 56, 53, 57, 54, 48, 54, 49, 54, 50, 54, 51, 54, 52, 54, 53, 54, 54, 54, 55, 54, 56, 54, 57, 55, 48, 55, 49, 55, 50, 55, 51, 55, 52, 55, 53, 55, 54, 55, 55, 55, 56, 55, 57, 56, 48, 56, 49, 56, 50, 56, 51, 56, 52, 56, 53, 56, 54, 56, 55, 56, 56, 56, 57, 57, 48, 57, 49, 57, 50, 57, 51, 57, 52, 57, 53, 57, 54, 57, 55, 57, 56, 57, 57]) v78 fun v79 =>
pIdxStr (.str [48, 48, 48, 49, 48, 50, 48, 51, 48, 52, 48, 53, 48, 54, 48, 55, 48, 56, 48, 57, 49, 48, 49, 49, 49, 50, 49, 51, 49, 52, 49, 53, 49, 54, 49, 55, 49, 56, 49, 57, 50, 48, 50, 49, 50, 50, 50, 51, 50, 52, 50, 53, 50, 54, 50, 55, 50, 56, 50, 57, 51, 48, 51, 49, 51, 50, 51, 51, 51, 52, 51, 53, 51, 54, 51, 55, 51, 56, 51, 57, 52, 48, 52, 49, 52, 50, 52, 51, 52, 52, 52, 53, 52, 54, 52, 55, 52, 56, 52, 57, 53, 48, 53, 49, 53, 50, 53, 51, 53, 52, 53, 53, 53, 54, 53, 55, 53, 56, 53, 57, 54, 48, 54, 49, 54, 50, 54, 51, 54, 52, 54, 53, 54, 54, 54, 55, 54, 56, 54, 57, 55, 48, 55, 49, 55, 50, 55, 51, 55, 52, 55, 53, 55, 54, 55, 55, 55, 56, 55, 57, 56, 48, 56, 49, 56, 50, 56, 51, 56, 52, 56, 53, 56, 54, 56, 55, 56, 56, 56, 57, 57, 48, 57, 49, 57, 50, 57, 51, 57, 52, 57, 53, 57, 54, 57, 55, 57, 56, 57, 57]) v74 fun v80 =>
pIdxS s57.2.2.1 v76 1 fun v81 =>
pStore h58 v81 v79 1 fun h82 =>
pIdxS s57.2.2.1 v77 1 fun v83 =>
pStore h82 v83 v80 1 fun h84 =>
pInt .sub s57.2.1 (.int .i64 (.ofNat 2)) fun v85 =>
j64 (v75, v85, s57.2.2.1, ()) h84 d59) (
j64 (s57.1, s57.2.1, s57.2.2.1, ()) h58 d59)) fun j60 =>
pInt .geq s1.1 (.int .i64 (.ofNat 4)) fun v86 =>
pCond v86 (
pInt .rem v56 (.int .u32 (.ofNat 10000)) fun v87 =>
pInt .quo v56 (.int .u32 (.ofNat 10000)) fun v88 =>
pInt .quo v87 (.int .u32 (.ofNat 100)) fun v89 =>
pInt .mul v89 (.int .u32 (.ofNat 2)) fun v90 =>
pInt .rem v87 (.int .u32 (.ofNat 100)) fun v91 =>
pInt .mul v91 (.int .u32 (.ofNat 2)) fun v92 =>
pInt .sub s1.1 (.int .i64 (.ofNat 1)) fun v93 =>
pInt .sub s1.1 (.int .i64 (.ofNat 2)) fun v94 =>
pInt .add v92 (.int .u32 (.ofNat 1)) fun v95 =>
pIdxStr (.str [48, 48, 48, 49, 48, 50, 48, 51, 48, 52, 48, 53, 48, 54, 48, 55, 48, 56, 48, 57, 49, 48, 49, 49, 49, 50, 49, 51, 49, 52, 49, 53, 49, 54, 49, 55, 49, 56, 49, 57, 50, 48, 50, 49, 50, 50, 50, 51, 50, 52, 50, 53, 50, 54, 50, 55, 50, 56, 50, 57, 51, 48, 51, 49, 51, 50, 51, 51, 51, 52, 51, 53, 51, 54, 51, 55, 51, 56, 51, 57, 52, 48, 52, 49, 52, 50, 52, 51, 52, 52, 52, 53, 52, 54, 52, 55, 52, 56, 52, 57, 53, 48, 53, 49, 53, 50, 53, 51, 53, 52, 53, 53, 53, 54, 53, 55, 53, 56, 53, 57, 54, 48, 54, 49, 54, 50, 54, 51, 54, 52, 54, 53, 54, 54, 54, 55, 54, 56, 54, 57, 55, 48, 55, 49, 55, 50, 55, 51, 55, 52, 55, 53, 55, 54, 55, 55, 55, 56, 55, 57, 56, 48, 56, 49, 56, 50, 56, 51, 56, 52, 56, 53, 56, 54, 56, 55, 56, 56, 56, 57, 57, 48, 57, 49, 57, 50, 57, 51, 57, 52, 57, 53, 57, 54, 57, 55, 57, 56, 57, 57]) v95 fun v96 =>
pIdxStr (.str [48, 48, 48, 49, 48, 50, 48, 51, 48, 52, 48, 53, 48, 54, 48, 55, 48, 56, 48, 57, 49, 48, 49, 49, 49, 50, 49, 51, 49, 52, 49, 53, 49, 54, 49, 55, 49, 56, 49, 57, 50, 48, 50, 49, 50, 50, 50, 51, 50, 52, 50, 53, 50, 54, 50, 55, 50, 56, 50, 57, 51, 48, 51, 49, 51, 50, 51, 51, 51, 52, 51, 53, 51, 54, 51, 55, 51, 56, 51, 57, 52, 48, 52, 49, 52, 50, 52, 51, 52, 52, 52, 53, 52, 54, 52, 55, 52, 56, 52, 57, 53, 48, 53, 49, 53, 50, 53, 51, 53, 52, 53, 53, 53, 54, 53, 55, 53, 56, 53, 57, 54, 48, 54, 49, 54, 50, 54, 51, 54, 52, 54, 53, 54, 54, 54, 55, 54, 56, 54, 57, 55, 48, 55, 49, 55, 50, 55, 51, 55, 52, 55, 53, 55, 54, 55, 55, 55, 56, 55, 57, 56, 48, 56, 49, 56, 50, 56, 51, 56, 52, 56, 53, 56, 54, 56, 55, 56, 56, 56, 57, 57, 48, 57, 49, 57, 50, 57, 51, 57, 52, 57, 53, 57, 54, 57, 55, 57, 56, 57, 57]) v92 fun v97 =>
pIdxS s1.2.2.1 v93 1 fun v98 =>
pStore h2 v98 v96 1 fun h99 =>
pIdxS s1.2.2.1 v94 1 fun v100 =>
pStore h99 v100 v97 1 fun h101 =>
pInt .sub s1.1 (.int .i64 (.ofNat 3)) fun v102 =>
pInt .sub s1.1 (.int .i64 (.ofNat 4)) fun v103 =>
pInt .add v90 (.int .u32 (.ofNat 1)) fun v104 =>
pIdxStr (.str [48, 48, 48, 49, 48, 50, 48, 51, 48, 52, 48, 53, 48, 54, 48, 55, 48, 56, 48, 57, 49, 48, 49, 49, 49, 50, 49, 51, 49, 52, 49, 53, 49, 54, 49, 55, 49, 56, 49, 57, 50, 48, 50, 49, 50, 50, 50, 51, 50, 52, 50, 53, 50, 54, 50, 55, 50, 56, 50, 57, 51, 48, 51, 49, 51, 50, 51, 51, 51, 52, 51, 53, 51, 54, 51, 55, 51, 56, 51, 57, 52, 48, 52, 49, 52, 50, 52, 51, 52, 52, 52, 53, 52, 54, 52, 55, 52, 56, 52, 57, 53, 48, 53, 49, 53, 50, 53, 51, 53, 52, 53, 53, 53, 54, 53, 55, 53, 56, 53, 57, 54, 48, 54, 49, 54, 50, 54, 51, 54, 52, 54, 53, 54, 54, 54, 55, 54, 56, 54, 57, 55, 48, 55, 49, 55, 50, 55, 51, 55, 52, 55, 53, 55, 54, 55, 55, 55, 56, 55, 57, 56, 48, 56, 49, 56, 50, 56, 51, 56, 52, 56, 53, 56, 54, 56, 55, 56, 56, 56, 57, 57, 48, 57, 49, 57, 50, 57, 51, 57, 52, 57, 53, 57, 54, 57, 55, 57, 56, 57, 57]) v104 fun v105 =>
pIdxStr (.str [48, 48, 48, 49, 48, 50, 48, 51, 48, 52, 48, 53, 48, 54, 48, 55, 48, 56, 48, 57, 49, 48, 49, 49, 49, 50, 49, 51, 49, 52, 49, 53, 49, 54, 49, 55, 49, 56, 49, 57, 50, 48, 50, 49, 50, 50, 50, 51, 50, 52, 50, 53, 50, 54, 50, 55, 50, 56, 50, 57, 51, 48, 51, 49, 51, 50, 51, 51, 51, 52, 51, 53, 51, 54, 51, 55, 51, 56, 51, 57, 52, 48, 52, 49, 52, 50, 52, 51, 52, 52, 52, 53, 52, 54, 52, 55, 52, 56, 52, 57, 53, 48, 53, 49, 53, 50, 53, 51, 53, 52, 53, 53, 53, 54, 53, 55, 53, 56, 53, 57, 54, 48, 54, 49, 54, 50, 54, 51, 54, 52, 54, 53, 54, 54, 54, 55, 54, 56, 54, 57, 55, 48, 55, 49, 55, 50, 55, 51, 55, 52, 55, 53, 55, 54, 55, 55, 55, 56, 55, 57, 56, 48, 56, 49, 56, 50, 56, 51, 56, 52, 56, 53, 56, 54, 56, 55, 56, 56, 56, 57, 57, 48, 57, 49, 57, 50, 57, 51, 57, 52, 57, 53, 57, 54, 57, 55, 57, 56, 57, 57]) v90 fun v106 =>
pIdxS s1.2.2.1 v102 1 fun v107 =>
pStore h101 v107 v105 1 fun h108 =>
pIdxS s1.2.2.1 v103 1 fun v109 =>
pStore h108 v109 v106 1 fun h110 =>
pInt .sub s1.1 (.int .i64 (.ofNat 4)) fun v111 =>
j60 (v88, v111, s1.2.2.1, ()) h110 d3) (
j60 (v56, s1.1, s1.2.2.1, ()) h2 d3))) (v0, a1, a0, ()) h []
theorem S215_eq (c : CV) (a0 a1 : AV) (h : AH) : enterK Tryz.prog NN P215 c 215 [a0, a1] h = S215 c a0 a1 h := by kernel_rfl
def W215 (c : CV) (l : List AV) (h : AH) : R := match l with | [a0, a1] => S215 c a0 a1 h | _ => none
theorem W215_ok : WOk Tryz.prog 215 W215 := by
  intro c l h r e
  unfold W215 at e
  split at e
  · exact ⟨P215, by rw [S215_eq]; exact e⟩
  · cases e
/- internal/strconv.formatBits -/
def P216 : Pl := (.n none .z (.n (some [11, 10, 4, 3, 2, 1, 0]) (.n none (.r [[23, 21, 11, 10, 4, 3, 2, 1, 0], [27, 25, 11, 10, 4, 3, 2, 1, 0]]) .z) (.n none .z (.n none .z (.n (some [13, 12, 11, 10, 4, 3, 2, 1, 0]) .z (.n (some [13, 12, 11, 10, 4, 3, 0]) (.n none .z (.n none (.n none .z (.n none .z (.n none .z (.n none (.n none (.n (some [16, 15, 14, 13, 12, 11, 10, 4, 3, 1, 0]) .z .z) .z) .z)))) (.n none .z (.n none (.n none (.n (some [17, 13, 12, 11, 10, 4, 3, 1, 0]) .z .z) .z) .z)))) (.n (some [13, 12, 11, 10, 4, 0]) .z .z)))))))
def S216 (c : CV) (a0 a1 a2 a3 a4 : AV) (h : AH) : R :=
joinC (α := AV × AV × AV × AV × AV × AV × AV × Unit → AH → List Nat → R) (fun s0 h1 d2 =>
pBox h1 322 (.agg [(.int .u8 (.ofNat 0)), (.int .u8 (.ofNat 0)), (.int .u8 (.ofNat 0)), (.int .u8 (.ofNat 0)), (.int .u8 (.ofNat 0)), (.int .u8 (.ofNat 0)), (.int .u8 (.ofNat 0)), (.int .u8 (.ofNat 0)), (.int .u8 (.ofNat 0)), (.int .u8 (.ofNat 0)), (.int .u8 (.ofNat 0)), (.int .u8 (.ofNat 0)), (.int .u8 (.ofNat 0)), (.int .u8 (.ofNat 0)), (.int .u8 (.ofNat 0)), (.int .u8 (.ofNat 0)), (.int .u8 (.ofNat 0)), (.int .u8 (.ofNat 0)), (.int .u8 (.ofNat 0)), (.int .u8 (.ofNat 0)), (.int .u8 (.ofNat 0)), (.int .u8 (.ofNat 0)), (.int .u8 (.ofNat 0)), (.int .u8 (.ofNat 0)), (.int .u8 (.ofNat 0)), (.int .u8 (.ofNat 0)), (.int .u8 (.ofNat 0)), (.int .u8 (.ofNat 0)), (.int .u8 (.ofNat 0)), (.int .u8 (.ofNat 0)), (.int .u8 (.ofNat 0)), (.int .u8 (.ofNat 0)), (.int .u8 (.ofNat 0)), (.int .u8 (.ofNat 0)), (.int .u8 (.ofNat 0)), (.int .u8 (.ofNat 0)), (.int .u8 (.ofNat 0)), (.int .u8 (.ofNat 0)), (.int .u8 (.ofNat 0)), (.int .u8 (.ofNat 0)), (.int .u8 (.ofNat 0)), (.int .u8 (.ofNat 0)), (.int .u8 (.ofNat 0)), (.int .u8 (.ofNat 0)), (.int .u8 (.ofNat 0)), (.int .u8 (.ofNat 0)), (.int .u8 (.ofNat 0)), (.int .u8 (.ofNat 0)), (.int .u8 (.ofNat 0)), (.int .u8 (.ofNat 0)), (.int .u8 (.ofNat 0)), (.int .u8 (.ofNat 0)), (.int .u8 (.ofNat 0)), (.int .u8 (.ofNat 0)), (.int .u8 (.ofNat 0)), (.int .u8 (.ofNat 0)), (.int .u8 (.ofNat 0)), (.int .u8 (.ofNat 0)), (.int .u8 (.ofNat 0)), (.int .u8 (.ofNat 0)), (.int .u8 (.ofNat 0)), (.int .u8 (.ofNat 0)), (.int .u8 (.ofNat 0)), (.int .u8 (.ofNat 0)), (.int .u8 (.ofNat 0))]) fun v4 h5 =>
joinC (α := AV × AV × AV × AV × AV × AV × AV × AV × AV × Unit → AH → List Nat → R) (fun s6 h7 d8 =>
joinC (α := AV × AV × AV × AV × AV × AV × AV × Unit → AH → List Nat → R) (fun s10 h11 d12 =>
joinC (α := AV × AV × AV × AV × AV × AV × Unit → AH → List Nat → R) (fun s14 h15 d16 =>
pCond s14.2.2.2.2.1 (
pSliceP 65 1 s14.2.1 (some s14.1) none fun v18 =>
pAppend h15 5 1 s14.2.2.2.2.2.1 v18 fun v19 h20 =>
pLeave d16 h20 fun h21 =>
some ((.tup [v19, s14.2.2.1]), h21)) (
pSliceP 65 1 s14.2.1 (some s14.1) none fun v22 =>
pB2S h15 v22 fun v23 =>
pLeave d16 h15 fun h24 =>
some ((.tup [s14.2.2.2.1, v23]), h24))) fun j17 =>
pCond s10.2.2.2.2.2.1 (
pInt .sub s10.1 (.int .i64 (.ofNat 1)) fun v25 =>
pIdxP s10.2.1 v25 65 1 fun v26 =>
pStore h11 v26 (.int .u8 (.ofNat 45)) 1 fun h27 =>
j17 (v25, s10.2.1, s10.2.2.1, s10.2.2.2.1, s10.2.2.2.2.1, s10.2.2.2.2.2.2.1, ()) h27 d12) (
j17 (s10.1, s10.2.1, s10.2.2.1, s10.2.2.2.1, s10.2.2.2.2.1, s10.2.2.2.2.2.2.1, ()) h11 d12)) fun j13 =>
pCall c (.fn 277 [] []) [s6.2.2.2.2.2.2.1] h7 fun v28 h29 =>
pCond v28 (
pConvI .u64 s6.2.2.2.2.2.2.1 fun v30 =>
pCall c (.fn 278 [] []) [v30] h29 fun v31 h32 =>
pConvI .u64 v31 fun v33 =>
pConvI .u64 s6.2.2.2.2.2.2.1 fun v34 =>
pConvI .u64 s6.2.2.2.2.2.2.1 fun v35 =>
pInt .sub v35 (.int .u64 (.ofNat 1)) fun v36 =>
loopC (σ := AV × AV × AV × AV × AV × AV × AV × AV × AV × AV × AV × Unit) NN (fun i40 s37 h38 d39 =>
pInt .geq s37.2.2.2.2.2.2.2.2.2.1 s37.2.1 fun v41 =>
pCond v41 (
pInt .sub s37.2.2.2.1 (.int .i64 (.ofNat 1)) fun v42 =>
pInt .and s37.2.2.2.2.2.2.2.2.2.1 s37.1 fun v43 =>
pIdxStr (.str [48, 49, 50, 51, 52, 53, 54, 55, 56, 57, 97, 98, 99, 100, 101, 102, 103, 104, 105, 106, 107, 108, 109, 110, 111, 112, 113, 114, 115, 116, 117, 118, 119, 120, 121, 122]) v43 fun v44 =>
pIdxP s37.2.2.2.2.1 v42 65 1 fun v45 =>
pStore h38 v45 v44 1 fun h46 =>
pShift .shr s37.2.2.2.2.2.2.2.2.2.1 s37.2.2.1 fun v47 =>
i40 (s37.1, s37.2.1, s37.2.2.1, v42, s37.2.2.2.2.1, s37.2.2.2.2.2.1, s37.2.2.2.2.2.2.1, s37.2.2.2.2.2.2.2.1, s37.2.2.2.2.2.2.2.2.1, v47, s37.2.2.2.2.2.2.2.2.2.2.1, ()) h46 d39) (
pInt .sub s37.2.2.2.1 (.int .i64 (.ofNat 1)) fun v48 =>
pIdxStr (.str [48, 49, 50, 51, 52, 53, 54, 55, 56, 57, 97, 98, 99, 100, 101, 102, 103, 104, 105, 106, 107, 108, 109, 110, 111, 112, 113, 114, 115, 116, 117, 118, 119, 120, 121, 122]) s37.2.2.2.2.2.2.2.2.2.1 fun v49 =>
pIdxP s37.2.2.2.2.1 v48 65 1 fun v50 =>
pStore h38 v50 v49 1 fun h51 =>
j13 (v48, s37.2.2.2.2.1, s37.2.2.2.2.2.1, s37.2.2.2.2.2.2.1, s37.2.2.2.2.2.2.2.1, s37.2.2.2.2.2.2.2.2.1, s37.2.2.2.2.2.2.2.2.2.2.1, ()) h51 d39)) (v36, v34, v33, s6.1, s6.2.1, s6.2.2.1, s6.2.2.2.1, s6.2.2.2.2.1, s6.2.2.2.2.2.1, s6.2.2.2.2.2.2.2.1, s6.2.2.2.2.2.2.2.2.1, ()) h32 d8) (
pConvI .u64 s6.2.2.2.2.2.2.1 fun v52 =>
loopC (σ := AV × AV × AV × AV × AV × AV × AV × AV × AV × Unit) NN (fun i56 s53 h54 d55 =>
pInt .geq s53.2.2.2.2.2.2.2.1 s53.1 fun v57 =>
pCond v57 (
pInt .sub s53.2.1 (.int .i64 (.ofNat 1)) fun v58 =>
pInt .quo s53.2.2.2.2.2.2.2.1 s53.1 fun v59 =>
pInt .mul v59 s53.1 fun v60 =>
pInt .sub s53.2.2.2.2.2.2.2.1 v60 fun v61 =>
pIdxStr (.str [48, 49, 50, 51, 52, 53, 54, 55, 56, 57, 97, 98, 99, 100, 101, 102, 103, 104, 105, 106, 107, 108, 109, 110, 111, 112, 113, 114, 115, 116, 117, 118, 119, 120, 121, 122]) v61 fun v62 =>
pIdxP s53.2.2.1 v58 65 1 fun v63 =>
pStore h54 v63 v62 1 fun h64 =>
i56 (s53.1, v58, s53.2.2.1, s53.2.2.2.1, s53.2.2.2.2.1, s53.2.2.2.2.2.1, s53.2.2.2.2.2.2.1, v59, s53.2.2.2.2.2.2.2.2.1, ()) h64 d55) (
pInt .sub s53.2.1 (.int .i64 (.ofNat 1)) fun v65 =>
pIdxStr (.str [48, 49, 50, 51, 52, 53, 54, 55, 56, 57, 97, 98, 99, 100, 101, 102, 103, 104, 105, 106, 107, 108, 109, 110, 111, 112, 113, 114, 115, 116, 117, 118, 119, 120, 121, 122]) s53.2.2.2.2.2.2.2.1 fun v66 =>
pIdxP s53.2.2.1 v65 65 1 fun v67 =>
pStore h54 v67 v66 1 fun h68 =>
j13 (v65, s53.2.2.1, s53.2.2.2.1, s53.2.2.2.2.1, s53.2.2.2.2.2.1, s53.2.2.2.2.2.2.1, s53.2.2.2.2.2.2.2.2.1, ()) h68 d55)) (v52, s6.1, s6.2.1, s6.2.2.1, s6.2.2.2.1, s6.2.2.2.2.1, s6.2.2.2.2.2.1, s6.2.2.2.2.2.2.2.1, s6.2.2.2.2.2.2.2.2.1, ()) h29 d8)) fun j9 =>
pCond s0.2.2.2.1 (
pUn .neg s0.2.2.2.2.2.1 fun v69 =>
j9 ((.int .i64 (.ofNat 65)), v4, s0.1, s0.2.1, s0.2.2.1, s0.2.2.2.1, s0.2.2.2.2.1, v69, s0.2.2.2.2.2.2.1, ()) h5 d2) (
j9 ((.int .i64 (.ofNat 65)), v4, s0.1, s0.2.1, s0.2.2.1, s0.2.2.2.1, s0.2.2.2.2.1, s0.2.2.2.2.2.1, s0.2.2.2.2.2.2.1, ()) h5 d2)) fun j3 =>
pInt .lss a2 (.int .i64 (.ofNat 2)) fun v70 =>
joinC (α := AV × AV × AV × AV × AV × AV × AV × AV × AV × Unit → AH → R) (fun s71 h72 =>
pPick s71.2.1 (.bool true) s71.1 fun v74 =>
joinC (α := AV × AV × AV × AV × AV × AV × AV × AV × AV × Unit → AH → R) (fun s75 h76 =>
pPick s75.2.1 (.bool true) s75.1 fun v78 =>
pCond v78 (
none /- op -/) (
j3 (s75.2.2.1, s75.2.2.2.1, s75.2.2.2.2.1, s75.2.2.2.2.2.1, s75.2.2.2.2.2.2.1, s75.2.2.2.2.2.2.2.1, s75.2.2.2.2.2.2.2.2.1, ()) h76 [])) fun j77 =>
pWant v74 false (
pInt .gtr s71.2.2.2.2.2.2.1 (.int .i64 (.ofNat 36)) fun v79 =>
j77 (v79, v74, s71.2.2.1, s71.2.2.2.1, s71.2.2.2.2.1, s71.2.2.2.2.2.1, s71.2.2.2.2.2.2.1, s71.2.2.2.2.2.2.2.1, s71.2.2.2.2.2.2.2.2.1, ()) h72) (
j77 (.undef, v74, s71.2.2.1, s71.2.2.2.1, s71.2.2.2.2.1, s71.2.2.2.2.2.1, s71.2.2.2.2.2.2.1, s71.2.2.2.2.2.2.2.1, s71.2.2.2.2.2.2.2.2.1, ()) h72)) fun j73 =>
pWant v70 false (
pInt .eql a2 (.int .i64 (.ofNat 10)) fun v80 =>
j73 (v80, v70, (.str []), .nils, a4, a3, a2, a1, a0, ()) h) (
j73 (.undef, v70, (.str []), .nils, a4, a3, a2, a1, a0, ()) h)
theorem S216_eq (c : CV) (a0 a1 a2 a3 a4 : AV) (h : AH) : enterK Tryz.prog NN P216 c 216 [a0, a1, a2, a3, a4] h = S216 c a0 a1 a2 a3 a4 h := by kernel_rfl
def W216 (c : CV) (l : List AV) (h : AH) : R := match l with | [a0, a1, a2, a3, a4] => S216 c a0 a1 a2 a3 a4 h | _ => none
theorem W216_ok : WOk Tryz.prog 216 W216 := by
  intro c l h r e
  unfold W216 at e
  split at e
  · exact ⟨P216, by rw [S216_eq]; exact e⟩
  · cases e
/- quietus/code.fields -/
def P219 : Pl := (.n none .z (.n none .z (.n none (.n none .z (.n (some [4, 3, 2]) (.n (some [8, 7, 5, 4, 3, 2]) .z (.n none .z (.n (some [13, 7, 5, 4, 3, 2]) .z (.n none (.r [[4, 3, 2]]) (.n (some [18, 7, 5, 4, 3, 2]) .z (.n none (.r [[4, 3, 2]]) (.n (some [27, 7, 5, 4, 3, 2]) .z (.n none (.r [[4, 3, 2]]) .z)))))))) .z)) (.n none (.r [[4, 3, 2]]) .z))))
def S219 (_ : CV) (a0 : AV) (h : AH) : R :=
pBox h 287 (.agg [(.int .i64 (.ofNat 0)), (.int .i64 (.ofNat 0))]) fun v0 h1 =>
pBox h1 287 (.agg [(.int .i64 (.ofNat 0)), (.int .i64 (.ofNat 0))]) fun v2 h3 =>
pBox h3 287 (.agg [(.int .i64 (.ofNat 0)), (.int .i64 (.ofNat 0))]) fun v4 h5 =>
pBuild [(.int .i64 (.ofNat 0)), (.int .i64 (.ofNat 0))] [(1, 1, (.int .i64 (.ofNat 7)))] fun v6 =>
pBox h5 287 (.agg [(.int .i64 (.ofNat 0)), (.int .i64 (.ofNat 0))]) fun v7 h8 =>
pStore h8 v7 v6 2 fun h9 =>
joinC (α := AV × AV × AV × Unit → AH → List Nat → R) (fun s10 h11 d12 =>
joinC (α := AV × AV × AV × Unit → AH → R) (fun s14 h15 =>
pLeave d12 h15 fun h17 =>
pLoadN h17 s14.2.2.1 2 fun v18 =>
pLoadN h17 s14.2.1 2 fun v19 =>
pLoadN h17 s14.1 2 fun v20 =>
some ((.tup [v18, v19, v20]), h17)) fun j16 =>
pLoadN h11 s10.2.2.1 2 fun v21 =>
pLoadN h11 s10.2.1 2 fun v22 =>
pLoadN h11 s10.1 2 fun v23 =>
pStore h11 s10.2.2.1 v21 2 fun h24 =>
pStore h24 s10.2.1 v22 2 fun h25 =>
pStore h25 s10.1 v23 2 fun h26 =>
pChk s10.1 (some 2) v23 h24 h25 h11.nx <|
pChk s10.1 (some 2) v23 h11 h24 h11.nx <|
pChk s10.2.1 (some 2) v22 h11 h24 h11.nx <|
j16 (s10.1, s10.2.1, s10.2.2.1, ()) h26) fun j13 =>
joinC (α := AV × AV × AV × AV × AV × AV × Unit → AH → List Nat → R) (fun s27 h28 d29 =>
pCond s27.1 (
pLoadN h28 s27.2.2.1 2 fun v31 =>
pStore h28 s27.2.2.2.2.2.1 v31 2 fun h32 =>
j13 (s27.2.2.2.1, s27.2.2.2.2.1, s27.2.2.2.2.2.1, ()) h32 d29) (
joinC (α := AV × AV × AV × AV × AV × AV × Unit → AH → List Nat → R) (fun s33 h34 d35 =>
pCond s33.1 (
joinC (α := AV × AV × AV × Unit → AH → R) (fun s37 h38 =>
j13 (s37.1, s37.2.1, s37.2.2.1, ()) h38 d35) fun j39 =>
pLoadN h34 s33.2.2.1 2 fun v40 =>
pLoadN h34 s33.2.2.1 2 fun v41 =>
pStore h34 s33.2.2.2.2.2.1 v40 2 fun h42 =>
pStore h42 s33.2.2.2.2.1 v41 2 fun h43 =>
pChk s33.2.2.1 (some 2) v41 h34 h42 h34.nx <|
j39 (s33.2.2.2.1, s33.2.2.2.2.1, s33.2.2.2.2.2.1, ()) h43) (
joinC (α := AV × AV × AV × AV × AV × AV × Unit → AH → List Nat → R) (fun s44 h45 d46 =>
pCond s44.1 (
joinC (α := AV × AV × AV × Unit → AH → R) (fun s48 h49 =>
j13 (s48.1, s48.2.1, s48.2.2.1, ()) h49 d46) fun j50 =>
pLoadN h45 s44.2.2.1 2 fun v51 =>
pLoadN h45 s44.2.2.1 2 fun v52 =>
pLoadN h45 s44.2.2.1 2 fun v53 =>
pStore h45 s44.2.2.2.2.2.1 v51 2 fun h54 =>
pStore h54 s44.2.2.2.2.1 v52 2 fun h55 =>
pStore h55 s44.2.2.2.1 v53 2 fun h56 =>
pChk s44.2.2.1 (some 2) v53 h54 h55 h45.nx <|
pChk s44.2.2.1 (some 2) v53 h45 h54 h45.nx <|
pChk s44.2.2.1 (some 2) v52 h45 h54 h45.nx <|
j50 (s44.2.2.2.1, s44.2.2.2.2.1, s44.2.2.2.2.2.1, ()) h56) (
joinC (α := AV × AV × AV × AV × AV × AV × Unit → AH → List Nat → R) (fun s57 h58 d59 =>
pCond s57.1 (
joinC (α := AV × AV × AV × Unit → AH → R) (fun s61 h62 =>
j13 (s61.1, s61.2.1, s61.2.2.1, ()) h62 d59) fun j63 =>
pLoadN h58 s57.2.2.1 2 fun v64 =>
pLoadN h58 s57.2.2.1 2 fun v65 =>
pBuild [(.int .i64 (.ofNat 0)), (.int .i64 (.ofNat 0))] [(1, 1, (.int .i64 (.ofNat 15)))] fun v66 =>
pStore h58 s57.2.2.2.2.2.1 v64 2 fun h67 =>
pStore h67 s57.2.2.2.2.1 v65 2 fun h68 =>
pStore h68 s57.2.2.2.1 v66 2 fun h69 =>
pChk s57.2.2.1 (some 2) v65 h58 h67 h58.nx <|
j63 (s57.2.2.2.1, s57.2.2.2.2.1, s57.2.2.2.2.2.1, ()) h69) (
pInt .eql s57.2.1 (.int .i64 (.ofNat 12)) fun v70 =>
pCond v70 (
pBuild [(.int .i64 (.ofNat 0)), (.int .i64 (.ofNat 0))] [(1, 1, (.int .i64 (.ofNat 40)))] fun v71 =>
pStore h58 s57.2.2.2.1 v71 2 fun h72 =>
j13 (s57.2.2.2.1, s57.2.2.2.2.1, s57.2.2.2.2.2.1, ()) h72 d59) (
pInt .eql s57.2.1 (.int .i64 (.ofNat 13)) fun v73 =>
pCond v73 (
pLoadN h58 s57.2.2.1 2 fun v74 =>
pBuild [(.int .i64 (.ofNat 0)), (.int .i64 (.ofNat 0))] [(1, 1, (.int .i64 (.ofNat 40)))] fun v75 =>
pStore h58 s57.2.2.2.2.2.1 v74 2 fun h76 =>
pStore h76 s57.2.2.2.1 v75 2 fun h77 =>
j13 (s57.2.2.2.1, s57.2.2.2.2.1, s57.2.2.2.2.2.1, ()) h77 d59) (
pInt .eql s57.2.1 (.int .i64 (.ofNat 23)) fun v78 =>
pCond v78 (
pBuild [(.int .i64 (.ofNat 0)), (.int .i64 (.ofNat 0))] [(0, 1, (.int .i64 (.ofNat 1))), (1, 1, (.int .i64 (.ofNat 12)))] fun v79 =>
pBuild [(.int .i64 (.ofNat 0)), (.int .i64 (.ofNat 0))] [(1, 1, (.int .i64 (.ofNat 7)))] fun v80 =>
pBuild [(.int .i64 (.ofNat 0)), (.int .i64 (.ofNat 0))] [(1, 1, (.int .i64 (.ofNat 6)))] fun v81 =>
pStore h58 s57.2.2.2.2.2.1 v79 2 fun h82 =>
pStore h82 s57.2.2.2.2.1 v80 2 fun h83 =>
pStore h83 s57.2.2.2.1 v81 2 fun h84 =>
j13 (s57.2.2.2.1, s57.2.2.2.2.1, s57.2.2.2.2.2.1, ()) h84 d59) (
j13 (s57.2.2.2.1, s57.2.2.2.2.1, s57.2.2.2.2.2.1, ()) h58 d59))))) fun j60 =>
pInt .eql s44.2.1 (.int .i64 (.ofNat 8)) fun v85 =>
pCond v85 (
j60 (v85, s44.2.1, s44.2.2.1, s44.2.2.2.1, s44.2.2.2.2.1, s44.2.2.2.2.2.1, ()) h45 d46) (
pInt .eql s44.2.1 (.int .i64 (.ofNat 9)) fun v86 =>
j60 (v86, s44.2.1, s44.2.2.1, s44.2.2.2.1, s44.2.2.2.2.1, s44.2.2.2.2.2.1, ()) h45 d46))) fun j47 =>
pInt .eql s33.2.1 (.int .i64 (.ofNat 3)) fun v87 =>
pCond v87 (
j47 (v87, s33.2.1, s33.2.2.1, s33.2.2.2.1, s33.2.2.2.2.1, s33.2.2.2.2.2.1, ()) h34 d35) (
pInt .eql s33.2.1 (.int .i64 (.ofNat 4)) fun v88 =>
pCond v88 (
j47 (v88, s33.2.1, s33.2.2.1, s33.2.2.2.1, s33.2.2.2.2.1, s33.2.2.2.2.2.1, ()) h34 d35) (
pInt .eql s33.2.1 (.int .i64 (.ofNat 5)) fun v89 =>
pCond v89 (
j47 (v89, s33.2.1, s33.2.2.1, s33.2.2.2.1, s33.2.2.2.2.1, s33.2.2.2.2.2.1, ()) h34 d35) (
pInt .eql s33.2.1 (.int .i64 (.ofNat 6)) fun v90 =>
pCond v90 (
j47 (v90, s33.2.1, s33.2.2.1, s33.2.2.2.1, s33.2.2.2.2.1, s33.2.2.2.2.2.1, ()) h34 d35) (
pInt .eql s33.2.1 (.int .i64 (.ofNat 7)) fun v91 =>
j47 (v91, s33.2.1, s33.2.2.1, s33.2.2.2.1, s33.2.2.2.2.1, s33.2.2.2.2.2.1, ()) h34 d35)))))) fun j36 =>
pInt .eql s27.2.1 (.int .i64 (.ofNat 2)) fun v92 =>
pCond v92 (
j36 (v92, s27.2.1, s27.2.2.1, s27.2.2.2.1, s27.2.2.2.2.1, s27.2.2.2.2.2.1, ()) h28 d29) (
pInt .eql s27.2.1 (.int .i64 (.ofNat 10)) fun v93 =>
j36 (v93, s27.2.1, s27.2.2.1, s27.2.2.2.1, s27.2.2.2.2.1, s27.2.2.2.2.2.1, ()) h28 d29))) fun j30 =>
pInt .eql a0 (.int .i64 (.ofNat 1)) fun v94 =>
pCond v94 (
j30 (v94, a0, v7, v4, v2, v0, ()) h9 []) (
pInt .eql a0 (.int .i64 (.ofNat 11)) fun v95 =>
pCond v95 (
j30 (v95, a0, v7, v4, v2, v0, ()) h9 []) (
pInt .eql a0 (.int .i64 (.ofNat 21)) fun v96 =>
j30 (v96, a0, v7, v4, v2, v0, ()) h9 []))
theorem S219_eq (c : CV) (a0 : AV) (h : AH) : enterK Tryz.prog NN P219 c 219 [a0] h = S219 c a0 h := by kernel_rfl
def W219 (c : CV) (l : List AV) (h : AH) : R := match l with | [a0] => S219 c a0 h | _ => none
theorem W219_ok : WOk Tryz.prog 219 W219 := by
  intro c l h r e
  unfold W219 at e
  split at e
  · exact ⟨P219, by rw [S219_eq]; exact e⟩
  · cases e
/- quietus/code.Name -/
def P220 : Pl := .z
def S220 (c : CV) (a0 : AV) (h : AH) : R :=
pCall c (.fn 280 [] []) [] h fun v0 h1 =>
pCall c (.fn 279 [] []) [v0, a0] h1 fun v2 h3 =>
some (v2, h3)
theorem S220_eq (c : CV) (a0 : AV) (h : AH) : enterK Tryz.prog NN P220 c 220 [a0] h = S220 c a0 h := by kernel_rfl
def W220 (c : CV) (l : List AV) (h : AH) : R := match l with | [a0] => S220 c a0 h | _ => none
theorem W220_ok : WOk Tryz.prog 220 W220 := by
  intro c l h r e
  unfold W220 at e
  split at e
  · exact ⟨P220, by rw [S220_eq]; exact e⟩
  · cases e
/- (quietus/code.field).fits -/
def P221 : Pl := (.n none .z (.n none (.r [[13, 9]]) .z))
def S221 (_ : CV) (a0 a1 : AV) (h : AH) : R :=
pBox h 287 a0 fun v0 h1 =>
pFieldA v0 0 fun v2 =>
pLoad1 h1 v2 fun v3 =>
pInt .geq a1 v3 fun v4 =>
joinC (α := AV × AV × Unit → AH → R) (fun s5 h6 =>
pPick s5.2.1 s5.1 (.bool false) fun v8 =>
some (v8, h6)) fun j7 =>
pWant v4 true (
pFieldA v0 1 fun v9 =>
pLoad1 h1 v9 fun v10 =>
pInt .leq a1 v10 fun v11 =>
j7 (v11, v4, ()) h1) (
j7 (.undef, v4, ()) h1)
theorem S221_eq (c : CV) (a0 a1 : AV) (h : AH) : enterK Tryz.prog NN P221 c 221 [a0, a1] h = S221 c a0 a1 h := by kernel_rfl
def W221 (c : CV) (l : List AV) (h : AH) : R := match l with | [a0, a1] => S221 c a0 a1 h | _ => none
theorem W221_ok : WOk Tryz.prog 221 W221 := by
  intro c l h r e
  unfold W221 at e
  split at e
  · exact ⟨P221, by rw [S221_eq]; exact e⟩
  · cases e
/- (*quietus/interp.Interp).truth$1 -/
def P222 : Pl := (.n none .z (.n none .z (.n none .z (.n none (.r [[]]) .z))))
def S222 (c : CV) (a0 a1 a2 a3 : AV) (h : AH) : R :=
pInt .neq a1 (.int .i64 (.ofNat 0)) fun v0 =>
pCond v0 (
some (a1, h)) (
pLoad1 h a2 fun v1 =>
pNil v1 fun v2 =>
pFieldA v2 14 fun v3 =>
pLoad1 h v3 fun v4 =>
pCall c (.fn 223 [] []) [v4, a0] h fun v5 h6 =>
pUn .not v5 fun v7 =>
pCond v7 (
some ((.int .i64 (.ofNat 5)), h6)) (
joinC (α := Unit → AH → R) (fun _ h9 =>
some ((.int .i64 (.ofNat 0)), h9)) fun j10 =>
pLoad1 h6 a2 fun v11 =>
pFieldA a3 3 fun v12 =>
pLoad1 h6 v12 fun v13 =>
pCall c (.fn 150 [] []) [a0] h6 fun v14 h15 =>
pNil v11 fun v16 =>
pFieldA v16 6 fun v17 =>
pIdxP v17 v13 8 1 fun v18 =>
pStore h15 v18 v14 1 fun h19 =>
pChk v12 none v13 h6 h15 h6.nx <|
pChk a2 none v11 h6 h15 h6.nx <|
j10 (()) h19))
theorem S222_eq (c : CV) (a0 a1 a2 a3 : AV) (h : AH) : enterK Tryz.prog NN P222 c 222 [a0, a1, a2, a3] h = S222 c a0 a1 a2 a3 h := by kernel_rfl
def W222 (c : CV) (l : List AV) (h : AH) : R := match l with | [a0, a1, a2, a3] => S222 c a0 a1 a2 a3 h | _ => none
theorem W222_ok : WOk Tryz.prog 222 W222 := by
  intro c l h r e
  unfold W222 at e
  split at e
  · exact ⟨P222, by rw [S222_eq]; exact e⟩
  · cases e
/- (*quietus/slate.Slate).AddTruth -/
def P223 : Pl := .z
def S223 (c : CV) (a0 a1 : AV) (h : AH) : R :=
pCall c (.fn 173 [] []) [a0, (.iface 4 a1)] h fun v0 h1 =>
some (v0, h1)
theorem S223_eq (c : CV) (a0 a1 : AV) (h : AH) : enterK Tryz.prog NN P223 c 223 [a0, a1] h = S223 c a0 a1 h := by kernel_rfl
def W223 (c : CV) (l : List AV) (h : AH) : R := match l with | [a0, a1] => S223 c a0 a1 h | _ => none
theorem W223_ok : WOk Tryz.prog 223 W223 := by
  intro c l h r e
  unfold W223 at e
  split at e
  · exact ⟨P223, by rw [S223_eq]; exact e⟩
  · cases e
/- quietus/draft.Do -/
def P224 : Pl := (.n none .z (.n none (.n none (.r [[17, 15, 2, 0]]) .z) (.n none .z (.n none .z (.n none .z (.n none .z (.n none .z (.n none (.n none .z (.n none (.n (some [67, 66, 65, 0]) .z .z) .z)) .z))))))))
def S224 (c : CV) (a0 a1 a2 : AV) (h : AH) : R :=
pInt .lss a1 (.int .i64 (.ofNat 6)) fun v0 =>
joinC (α := AV × AV × AV × AV × Unit → AH → R) (fun s1 h2 =>
pPick s1.2.1 (.bool true) s1.1 fun v4 =>
pCond v4 (
some ((.int .i64 (.ofNat 2)), h2)) (
pCall c (.fn 281 [] []) [s1.2.2.2.1] h2 fun v5 h6 =>
pBuild [.nilp, (.int .i64 (.ofNat 0)), (.int .i64 (.ofNat 0))] [(0, 1, v5)] fun v7 =>
pBox h6 327 v7 fun v8 h9 =>
pCall c s1.2.2.1 [v8] h9 fun _ h11 =>
pNil v8 fun v12 =>
pFieldA v12 1 fun v13 =>
pLoad1 h11 v13 fun v14 =>
pInt .eql v14 (.int .i64 (.ofNat 11)) fun v15 =>
pCond v15 (
pNil v8 fun v16 =>
pFieldA v16 0 fun v17 =>
pLoad1 h11 v17 fun v18 =>
pCall c (.fn 71 [] []) [v18] h11 fun v19 h20 =>
pCall c (.fn 121 [] []) [s1.2.2.2.1, v19] h20 fun v21 h22 =>
pExtract v21 0 fun _ =>
pExtract v21 1 fun v24 =>
some (v24, h22)) (
pNil v8 fun v25 =>
pFieldA v25 1 fun v26 =>
pLoad1 h11 v26 fun v27 =>
pInt .neq v27 (.int .i64 (.ofNat 0)) fun v28 =>
pCond v28 (
pNil v8 fun v29 =>
pFieldA v29 1 fun v30 =>
pLoad1 h11 v30 fun v31 =>
some (v31, h11)) (
pNil v8 fun v32 =>
pFieldA v32 0 fun v33 =>
pLoad1 h11 v33 fun v34 =>
pCall c (.fn 73 [] []) [v34] h11 fun v35 h36 =>
pCall c (.fn 123 [] []) [s1.2.2.2.1, v35] h36 fun v37 h38 =>
pInt .neq v37 (.int .i64 (.ofNat 0)) fun v39 =>
pCond v39 (
some (v37, h38)) (
pNil v8 fun v40 =>
pFieldA v40 0 fun v41 =>
pLoad1 h38 v41 fun v42 =>
pCall c (.fn 82 [] []) [v42] h38 fun v43 h44 =>
pLenS v43 fun v45 =>
loopC (σ := AV × AV × AV × AV × Unit) NN (fun i49 s46 h47 d48 =>
pInt .lss s46.1 s46.2.1 fun v50 =>
pCond v50 (
pIdxS s46.2.2.1 s46.1 1 fun v51 =>
pLoad1 h47 v51 fun v52 =>
pCall c (.fn 260 [] []) [s46.2.2.2.1, v52] h47 fun _ h54 =>
pInt .add s46.1 (.int .i64 (.ofNat 1)) fun v55 =>
i49 (v55, s46.2.1, s46.2.2.1, s46.2.2.2.1, ()) h54 d48) (
pLeave d48 h47 fun h56 =>
some ((.int .i64 (.ofNat 0)), h56))) ((.int .i64 (.ofNat 0)), v45, v43, s1.2.2.2.1, ()) h44 []))))) fun j3 =>
pWant v0 false (
pInt .geq a1 (.int .i64 (.ofNat 14)) fun v57 =>
j3 (v57, v0, a2, a0, ()) h) (
j3 (.undef, v0, a2, a0, ()) h)
theorem S224_eq (c : CV) (a0 a1 a2 : AV) (h : AH) : enterK Tryz.prog NN P224 c 224 [a0, a1, a2] h = S224 c a0 a1 a2 h := by kernel_rfl
def W224 (c : CV) (l : List AV) (h : AH) : R := match l with | [a0, a1, a2] => S224 c a0 a1 a2 h | _ => none
theorem W224_ok : WOk Tryz.prog 224 W224 := by
  intro c l h r e
  unfold W224 at e
  split at e
  · exact ⟨P224, by rw [S224_eq]; exact e⟩
  · cases e
/- quietus/list.Add$1 -/
def P225 : Pl := (.n none .z (.n none (.n none (.r [[22, 18, 6, 5, 3, 2, 0]]) .z) .z))
def S225 (c : CV) (a0 a1 a2 a3 : AV) (h : AH) : R :=
pLoad1 h a1 fun v0 =>
pLoad1 h a2 fun v1 =>
pCall c (.fn 226 [] []) [a0, v0, v1] h fun v2 h3 =>
pExtract v2 0 fun v4 =>
pExtract v2 1 fun v5 =>
pCall c (.fn 227 [] []) [a0] h3 fun v6 h7 =>
pUn .not v6 fun v8 =>
joinC (α := AV × AV × AV × AV × AV × AV × AV × Unit → AH → R) (fun s9 h10 =>
pPick s9.2.1 (.bool true) s9.1 fun v12 =>
pCond v12 (
some ((.tup []), h10)) (
pCall c (.fn 229 [] []) [s9.2.2.2.2.2.2.1, (.int .i64 (.ofNat 2))] h10 fun v13 h14 =>
pInt .add v13 (.int .i64 (.ofNat 0)) fun v15 =>
pLoad1 h14 s9.2.2.2.2.2.1 fun v16 =>
pCall c (.fn 230 [] []) [s9.2.2.2.2.2.2.1, v15, v16] h14 fun _ h18 =>
pInt .add v13 (.int .i64 (.ofNat 1)) fun v19 =>
pCall c (.fn 231 [] []) [s9.2.2.2.2.2.2.1, v19, s9.2.2.1] h18 fun _ h21 =>
pCall c (.fn 231 [] []) [s9.2.2.2.2.2.2.1, s9.2.2.2.1, v13] h21 fun _ h23 =>
pStore h23 s9.2.2.2.2.1 (.bool true) 1 fun h24 =>
some ((.tup []), h24))) fun j11 =>
pWant v8 false (
pLoad1 h7 a2 fun v25 =>
pCall c (.fn 228 [] []) [a0, v5, v25] h7 fun v26 h27 =>
j11 (v26, v8, v5, v4, a3, a2, a0, ()) h27) (
j11 (.undef, v8, v5, v4, a3, a2, a0, ()) h7)
theorem S225_eq (c : CV) (a0 a1 a2 a3 : AV) (h : AH) : enterK Tryz.prog NN P225 c 225 [a0, a1, a2, a3] h = S225 c a0 a1 a2 a3 h := by kernel_rfl
def W225 (c : CV) (l : List AV) (h : AH) : R := match l with | [a0, a1, a2, a3] => S225 c a0 a1 a2 a3 h | _ => none
theorem W225_ok : WOk Tryz.prog 225 W225 := by
  intro c l h r e
  unfold W225 at e
  split at e
  · exact ⟨P225, by rw [S225_eq]; exact e⟩
  · cases e
/- quietus/list.seek -/
def P226 : Pl := (.n none .z (.n none .z (.n none (.n (some [7, 6]) (.n (some [7, 6, 2, 0]) (.n none .z (.n none (.n none .z (.n none (.n none (.r [[22, 16, 7, 6, 2, 0]]) .z) .z)) .z)) .z) .z) .z)))
def S226 (c : CV) (a0 a1 a2 : AV) (h : AH) : R :=
joinC (α := AV × AV × Unit → AH → List Nat → R) (fun s0 h1 d2 =>
pLeave d2 h1 fun h4 =>
some ((.tup [s0.2.1, s0.1]), h4)) fun j3 =>
loopC (σ := AV × AV × AV × AV × Unit) NN (fun i8 s5 h6 d7 =>
pCall c (.fn 282 [] []) [s5.2.2.2.1] h6 fun v9 h10 =>
pCond v9 (
pCall c (.fn 283 [] []) [s5.2.2.2.1, s5.2.1] h10 fun v11 h12 =>
pInt .eql v11 (.int .i64 (.ofNat 0)) fun v13 =>
joinC (α := AV × AV × AV × AV × AV × AV × Unit → AH → R) (fun s14 h15 =>
pPick s14.2.1 (.bool true) s14.1 fun v17 =>
pCond v17 (
j3 (s14.2.2.1, s14.2.2.2.1, ()) h15 d7) (
pInt .add s14.2.2.1 (.int .i64 (.ofNat 1)) fun v18 =>
i8 (s14.2.2.1, v18, s14.2.2.2.2.1, s14.2.2.2.2.2.1, ()) h15 d7)) fun j16 =>
pWant v13 false (
pInt .add v11 (.int .i64 (.ofNat 0)) fun v19 =>
pCall c (.fn 233 [] []) [s5.2.2.2.1, v19] h12 fun v20 h21 =>
pInt .geq v20 s5.2.2.1 fun v22 =>
j16 (v22, v13, v11, s5.2.1, s5.2.2.1, s5.2.2.2.1, ()) h21) (
j16 (.undef, v13, v11, s5.2.1, s5.2.2.1, s5.2.2.2.1, ()) h12)) (
j3 (s5.1, s5.2.1, ()) h10 d7)) ((.int .i64 (.ofNat 0)), a1, a2, a0, ()) h []
theorem S226_eq (c : CV) (a0 a1 a2 : AV) (h : AH) : enterK Tryz.prog NN P226 c 226 [a0, a1, a2] h = S226 c a0 a1 a2 h := by kernel_rfl
def W226 (c : CV) (l : List AV) (h : AH) : R := match l with | [a0, a1, a2] => S226 c a0 a1 a2 h | _ => none
theorem W226_ok : WOk Tryz.prog 226 W226 := by
  intro c l h r e
  unfold W226 at e
  split at e
  · exact ⟨P226, by rw [S226_eq]; exact e⟩
  · cases e
/- (*quietus/draft.Draft).OK -/
def P227 : Pl := .z
def S227 (_ : CV) (a0 : AV) (h : AH) : R :=
pNil a0 fun v0 =>
pFieldA v0 1 fun v1 =>
pLoad1 h v1 fun v2 =>
pInt .eql v2 (.int .i64 (.ofNat 0)) fun v3 =>
some (v3, h)
theorem S227_eq (c : CV) (a0 : AV) (h : AH) : enterK Tryz.prog NN P227 c 227 [a0] h = S227 c a0 h := by kernel_rfl
def W227 (c : CV) (l : List AV) (h : AH) : R := match l with | [a0] => S227 c a0 h | _ => none
theorem W227_ok : WOk Tryz.prog 227 W227 := by
  intro c l h r e
  unfold W227 at e
  split at e
  · exact ⟨P227, by rw [S227_eq]; exact e⟩
  · cases e
/- quietus/list.found -/
def P228 : Pl := (.n none .z (.n none (.r [[11, 9, 2, 1, 0], [19, 13]]) .z))
def S228 (c : CV) (a0 a1 a2 : AV) (h : AH) : R :=
pCall c (.fn 227 [] []) [a0] h fun v0 h1 =>
joinC (α := AV × AV × AV × AV × AV × Unit → AH → R) (fun s2 h3 =>
pPick s2.2.1 s2.1 (.bool false) fun v5 =>
joinC (α := AV × AV × Unit → AH → R) (fun s6 h7 =>
pPick s6.2.1 s6.1 (.bool false) fun v9 =>
some (v9, h7)) fun j8 =>
pWant v5 true (
pInt .add s2.2.2.2.1 (.int .i64 (.ofNat 0)) fun v10 =>
pCall c (.fn 233 [] []) [s2.2.2.2.2.1, v10] h3 fun v11 h12 =>
pInt .eql v11 s2.2.2.1 fun v13 =>
j8 (v13, v5, ()) h12) (
j8 (.undef, v5, ()) h3)) fun j4 =>
pWant v0 true (
pInt .neq a1 (.int .i64 (.ofNat 0)) fun v14 =>
j4 (v14, v0, a2, a1, a0, ()) h1) (
j4 (.undef, v0, a2, a1, a0, ()) h1)
theorem S228_eq (c : CV) (a0 a1 a2 : AV) (h : AH) : enterK Tryz.prog NN P228 c 228 [a0, a1, a2] h = S228 c a0 a1 a2 h := by kernel_rfl
def W228 (c : CV) (l : List AV) (h : AH) : R := match l with | [a0, a1, a2] => S228 c a0 a1 a2 h | _ => none
theorem W228_ok : WOk Tryz.prog 228 W228 := by
  intro c l h r e
  unfold W228 at e
  split at e
  · exact ⟨P228, by rw [S228_eq]; exact e⟩
  · cases e
/- (*quietus/draft.Draft).Alloc -/
def P229 : Pl := .z
def S229 (c : CV) (a0 a1 : AV) (h : AH) : R :=
pCall c (.fn 227 [] []) [a0] h fun v0 h1 =>
pUn .not v0 fun v2 =>
pCond v2 (
some ((.int .i64 (.ofNat 0)), h1)) (
pNil a0 fun v3 =>
pFieldA v3 0 fun v4 =>
pLoad1 h1 v4 fun v5 =>
pCall c (.fn 190 [] []) [v5, a1] h1 fun v6 h7 =>
pExtract v6 0 fun v8 =>
pExtract v6 1 fun v9 =>
pCall c (.fn 284 [] []) [a0, v9] h7 fun _ h11 =>
some (v8, h11))
theorem S229_eq (c : CV) (a0 a1 : AV) (h : AH) : enterK Tryz.prog NN P229 c 229 [a0, a1] h = S229 c a0 a1 h := by kernel_rfl
def W229 (c : CV) (l : List AV) (h : AH) : R := match l with | [a0, a1] => S229 c a0 a1 h | _ => none
theorem W229_ok : WOk Tryz.prog 229 W229 := by
  intro c l h r e
  unfold W229 at e
  split at e
  · exact ⟨P229, by rw [S229_eq]; exact e⟩
  · cases e
/- (*quietus/draft.Draft).Write -/
def P230 : Pl := .z
def S230 (c : CV) (a0 a1 a2 : AV) (h : AH) : R :=
pCall c (.fn 227 [] []) [a0] h fun v0 h1 =>
pCond v0 (
pNil a0 fun v2 =>
pFieldA v2 0 fun v3 =>
pLoad1 h1 v3 fun v4 =>
pCall c (.fn 189 [] []) [v4, a1, a2] h1 fun v5 h6 =>
pCall c (.fn 284 [] []) [a0, v5] h6 fun _ h8 =>
some ((.tup []), h8)) (
some ((.tup []), h1))
theorem S230_eq (c : CV) (a0 a1 a2 : AV) (h : AH) : enterK Tryz.prog NN P230 c 230 [a0, a1, a2] h = S230 c a0 a1 a2 h := by kernel_rfl
def W230 (c : CV) (l : List AV) (h : AH) : R := match l with | [a0, a1, a2] => S230 c a0 a1 a2 h | _ => none
theorem W230_ok : WOk Tryz.prog 230 W230 := by
  intro c l h r e
  unfold W230 at e
  split at e
  · exact ⟨P230, by rw [S230_eq]; exact e⟩
  · cases e
/- (*quietus/draft.Draft).Point -/
def P231 : Pl := .z
def S231 (c : CV) (a0 a1 a2 : AV) (h : AH) : R :=
pConvI .u64 a2 fun v0 =>
pCall c (.fn 230 [] []) [a0, a1, v0] h fun _ h2 =>
some ((.tup []), h2)
theorem S231_eq (c : CV) (a0 a1 a2 : AV) (h : AH) : enterK Tryz.prog NN P231 c 231 [a0, a1, a2] h = S231 c a0 a1 a2 h := by kernel_rfl
def W231 (c : CV) (l : List AV) (h : AH) : R := match l with | [a0, a1, a2] => S231 c a0 a1 a2 h | _ => none
theorem W231_ok : WOk Tryz.prog 231 W231 := by
  intro c l h r e
  unfold W231 at e
  split at e
  · exact ⟨P231, by rw [S231_eq]; exact e⟩
  · cases e
/- quietus/list.Cut$1 -/
def P232 : Pl := .z
def S232 (c : CV) (a0 a1 a2 a3 : AV) (h : AH) : R :=
pLoad1 h a1 fun v0 =>
pLoad1 h a2 fun v1 =>
pCall c (.fn 226 [] []) [a0, v0, v1] h fun v2 h3 =>
pExtract v2 0 fun v4 =>
pExtract v2 1 fun v5 =>
pLoad1 h3 a2 fun v6 =>
pCall c (.fn 228 [] []) [a0, v5, v6] h3 fun v7 h8 =>
pCond v7 (
pInt .add v5 (.int .i64 (.ofNat 1)) fun v9 =>
pCall c (.fn 233 [] []) [a0, v9] h8 fun v10 h11 =>
pCall c (.fn 230 [] []) [a0, v4, v10] h11 fun _ h13 =>
pCall c (.fn 234 [] []) [a0, v5] h13 fun _ h15 =>
pStore h15 a3 (.bool true) 1 fun h16 =>
some ((.tup []), h16)) (
some ((.tup []), h8))
theorem S232_eq (c : CV) (a0 a1 a2 a3 : AV) (h : AH) : enterK Tryz.prog NN P232 c 232 [a0, a1, a2, a3] h = S232 c a0 a1 a2 a3 h := by kernel_rfl
def W232 (c : CV) (l : List AV) (h : AH) : R := match l with | [a0, a1, a2, a3] => S232 c a0 a1 a2 a3 h | _ => none
theorem W232_ok : WOk Tryz.prog 232 W232 := by
  intro c l h r e
  unfold W232 at e
  split at e
  · exact ⟨P232, by rw [S232_eq]; exact e⟩
  · cases e
/- (*quietus/draft.Draft).Read -/
def P233 : Pl := .z
def S233 (c : CV) (a0 a1 : AV) (h : AH) : R :=
pCall c (.fn 227 [] []) [a0] h fun v0 h1 =>
pUn .not v0 fun v2 =>
pCond v2 (
some ((.int .u64 (.ofNat 0)), h1)) (
pNil a0 fun v3 =>
pFieldA v3 0 fun v4 =>
pLoad1 h1 v4 fun v5 =>
pCall c (.fn 121 [] []) [v5, a1] h1 fun v6 h7 =>
pExtract v6 0 fun v8 =>
pExtract v6 1 fun v9 =>
pCall c (.fn 284 [] []) [a0, v9] h7 fun _ h11 =>
some (v8, h11))
theorem S233_eq (c : CV) (a0 a1 : AV) (h : AH) : enterK Tryz.prog NN P233 c 233 [a0, a1] h = S233 c a0 a1 h := by kernel_rfl
def W233 (c : CV) (l : List AV) (h : AH) : R := match l with | [a0, a1] => S233 c a0 a1 h | _ => none
theorem W233_ok : WOk Tryz.prog 233 W233 := by
  intro c l h r e
  unfold W233 at e
  split at e
  · exact ⟨P233, by rw [S233_eq]; exact e⟩
  · cases e
/- (*quietus/draft.Draft).Free -/
def P234 : Pl := .z
def S234 (c : CV) (a0 a1 : AV) (h : AH) : R :=
pCall c (.fn 227 [] []) [a0] h fun v0 h1 =>
pCond v0 (
pNil a0 fun v2 =>
pFieldA v2 0 fun v3 =>
pLoad1 h1 v3 fun v4 =>
pCall c (.fn 191 [] []) [v4, a1] h1 fun v5 h6 =>
pCall c (.fn 284 [] []) [a0, v5] h6 fun _ h8 =>
some ((.tup []), h8)) (
some ((.tup []), h1))
theorem S234_eq (c : CV) (a0 a1 : AV) (h : AH) : enterK Tryz.prog NN P234 c 234 [a0, a1] h = S234 c a0 a1 h := by kernel_rfl
def W234 (c : CV) (l : List AV) (h : AH) : R := match l with | [a0, a1] => S234 c a0 a1 h | _ => none
theorem W234_ok : WOk Tryz.prog 234 W234 := by
  intro c l h r e
  unfold W234 at e
  split at e
  · exact ⟨P234, by rw [S234_eq]; exact e⟩
  · cases e
/- quietus/list.Has$1 -/
def P235 : Pl := .z
def S235 (c : CV) (a0 a1 a2 a3 : AV) (h : AH) : R :=
pLoad1 h a1 fun v0 =>
pLoad1 h a2 fun v1 =>
pCall c (.fn 226 [] []) [a0, v0, v1] h fun v2 h3 =>
pExtract v2 0 fun _ =>
pExtract v2 1 fun v5 =>
pLoad1 h3 a2 fun v6 =>
pCall c (.fn 228 [] []) [a0, v5, v6] h3 fun v7 h8 =>
pStore h8 a3 v7 1 fun h9 =>
some ((.tup []), h9)
theorem S235_eq (c : CV) (a0 a1 a2 a3 : AV) (h : AH) : enterK Tryz.prog NN P235 c 235 [a0, a1, a2, a3] h = S235 c a0 a1 a2 a3 h := by kernel_rfl
def W235 (c : CV) (l : List AV) (h : AH) : R := match l with | [a0, a1, a2, a3] => S235 c a0 a1 a2 a3 h | _ => none
theorem W235_ok : WOk Tryz.prog 235 W235 := by
  intro c l h r e
  unfold W235 at e
  split at e
  · exact ⟨P235, by rw [S235_eq]; exact e⟩
  · cases e
/- quietus/table.Put$1 -/
def P236 : Pl := (.n none .z (.n (some [6, 4, 3, 2, 0]) (.n none (.r [[20, 15, 6, 4, 3, 2, 1, 0]]) .z) (.n none .z (.n none .z (.n none .z (.n (some [7, 6, 4, 3, 2, 0]) (.n none (.r [[53, 43, 7, 6, 4, 3, 2, 0], [60, 55, 7, 6, 4, 3, 2, 0]]) .z) .z))))))
def S236 (c : CV) (a0 a1 a2 a3 a4 : AV) (h : AH) : R :=
pLoad1 h a1 fun v0 =>
pCall c (.fn 237 [] []) [a0, v0] h fun v1 h2 =>
joinC (α := AV × AV × AV × AV × AV × Unit → AH → List Nat → R) (fun s3 h4 d5 =>
pCall c (.fn 227 [] []) [s3.2.2.2.2.1] h4 fun v7 h8 =>
pUn .not v7 fun v9 =>
pCond v9 (
pLeave d5 h8 fun h10 =>
some ((.tup []), h10)) (
pLoad1 h8 s3.2.2.2.1 fun v11 =>
pCall c (.fn 239 [] []) [s3.1, v11] h8 fun v12 h13 =>
pExtract v12 0 fun v14 =>
pExtract v12 1 fun v15 =>
pInt .neq v15 (.int .i64 (.ofNat 0)) fun v16 =>
pCond v16 (
pInt .add v15 (.int .i64 (.ofNat 1)) fun v17 =>
pLoad1 h13 s3.2.2.1 fun v18 =>
pCall c (.fn 230 [] []) [s3.2.2.2.2.1, v17, v18] h13 fun _ h20 =>
pLeave d5 h20 fun h21 =>
some ((.tup []), h21)) (
joinC (α := AV × AV × AV × AV × AV × AV × Unit → AH → List Nat → R) (fun s22 h23 d24 =>
pCall c (.fn 229 [] []) [s22.2.2.2.2.2.1, (.int .i64 (.ofNat 3))] h23 fun v26 h27 =>
pInt .add v26 (.int .i64 (.ofNat 0)) fun v28 =>
pLoad1 h27 s22.2.2.2.2.1 fun v29 =>
pCall c (.fn 230 [] []) [s22.2.2.2.2.2.1, v28, v29] h27 fun _ h31 =>
pInt .add v26 (.int .i64 (.ofNat 1)) fun v32 =>
pLoad1 h31 s22.2.2.2.1 fun v33 =>
pCall c (.fn 230 [] []) [s22.2.2.2.2.2.1, v32, v33] h31 fun _ h35 =>
pInt .add v26 (.int .i64 (.ofNat 2)) fun v36 =>
pCall c (.fn 231 [] []) [s22.2.2.2.2.2.1, v36, (.int .i64 (.ofNat 0))] h35 fun _ h38 =>
pCall c (.fn 231 [] []) [s22.2.2.2.2.2.1, s22.1, v26] h38 fun _ h40 =>
pNil s22.2.1 fun v41 =>
pFieldA v41 1 fun v42 =>
pLoad1 h40 v42 fun v43 =>
pInt .add v43 (.int .i64 (.ofNat 0)) fun v44 =>
pNil s22.2.1 fun v45 =>
pFieldA v45 4 fun v46 =>
pLoad1 h40 v46 fun v47 =>
pInt .add v47 (.int .u64 (.ofNat 1)) fun v48 =>
pCall c (.fn 230 [] []) [s22.2.2.2.2.2.1, v44, v48] h40 fun _ h50 =>
pStore h50 s22.2.2.1 (.bool true) 1 fun h51 =>
pLeave d24 h51 fun h52 =>
some ((.tup []), h52)) fun j25 =>
pCall c (.fn 227 [] []) [s3.2.2.2.2.1] h13 fun v53 h54 =>
joinC (α := AV × AV × AV × AV × AV × AV × AV × AV × Unit → AH → R) (fun s55 h56 =>
pPick s55.2.1 s55.1 (.bool false) fun v58 =>
joinC (α := AV × AV × AV × AV × AV × AV × AV × AV × Unit → AH → R) (fun s59 h60 =>
pPick s59.2.1 s59.1 (.bool false) fun v62 =>
pCond v62 (
pCall c (.fn 240 [] []) [s59.2.2.2.1] h60 fun _ h64 =>
pLoad1 h64 s59.2.2.2.2.2.2.1 fun v65 =>
pCall c (.fn 239 [] []) [s59.2.2.2.1, v65] h64 fun v66 h67 =>
pExtract v66 0 fun v68 =>
pExtract v66 1 fun _ =>
j25 (v68, s59.2.2.2.1, s59.2.2.2.2.1, s59.2.2.2.2.2.1, s59.2.2.2.2.2.2.1, s59.2.2.2.2.2.2.2.1, ()) h67 d5) (
j25 (s59.2.2.1, s59.2.2.2.1, s59.2.2.2.2.1, s59.2.2.2.2.2.1, s59.2.2.2.2.2.2.1, s59.2.2.2.2.2.2.2.1, ()) h60 d5)) fun j61 =>
pWant v58 true (
pNil s55.2.2.2.1 fun v70 =>
pFieldA v70 2 fun v71 =>
pLoad1 h56 v71 fun v72 =>
pInt .lss v72 (.int .i64 (.ofNat 16)) fun v73 =>
j61 (v73, v58, s55.2.2.1, s55.2.2.2.1, s55.2.2.2.2.1, s55.2.2.2.2.2.1, s55.2.2.2.2.2.2.1, s55.2.2.2.2.2.2.2.1, ()) h56) (
j61 (.undef, v58, s55.2.2.1, s55.2.2.2.1, s55.2.2.2.2.1, s55.2.2.2.2.2.1, s55.2.2.2.2.2.2.1, s55.2.2.2.2.2.2.2.1, ()) h56)) fun j57 =>
pWant v53 true (
pNil s3.1 fun v74 =>
pFieldA v74 4 fun v75 =>
pLoad1 h54 v75 fun v76 =>
pNil s3.1 fun v77 =>
pFieldA v77 2 fun v78 =>
pLoad1 h54 v78 fun v79 =>
pConvI .u64 v79 fun v80 =>
pInt .geq v76 v80 fun v81 =>
j57 (v81, v53, v14, s3.1, s3.2.1, s3.2.2.1, s3.2.2.2.1, s3.2.2.2.2.1, ()) h54) (
j57 (.undef, v53, v14, s3.1, s3.2.1, s3.2.2.1, s3.2.2.2.1, s3.2.2.2.2.1, ()) h54)))) fun j6 =>
pCall c (.fn 227 [] []) [a0] h2 fun v82 h83 =>
joinC (α := AV × AV × AV × AV × AV × AV × AV × AV × Unit → AH → R) (fun s84 h85 =>
pPick s84.2.1 s84.1 (.bool false) fun v87 =>
pCond v87 (
pLoad1 h85 s84.2.2.2.2.2.2.1 fun v88 =>
pCall c (.fn 238 [] []) [s84.2.2.2.2.2.2.2.1, v88] h85 fun v89 h90 =>
j6 (v89, s84.2.2.2.1, s84.2.2.2.2.1, s84.2.2.2.2.2.1, s84.2.2.2.2.2.2.2.1, ()) h90 []) (
j6 (s84.2.2.1, s84.2.2.2.1, s84.2.2.2.2.1, s84.2.2.2.2.2.1, s84.2.2.2.2.2.2.2.1, ()) h85 [])) fun j86 =>
pWant v82 true (
pNil v1 fun v91 =>
pFieldA v91 1 fun v92 =>
pLoad1 h83 v92 fun v93 =>
pInt .eql v93 (.int .i64 (.ofNat 0)) fun v94 =>
j86 (v94, v82, v1, a4, a3, a2, a1, a0, ()) h83) (
j86 (.undef, v82, v1, a4, a3, a2, a1, a0, ()) h83)
theorem S236_eq (c : CV) (a0 a1 a2 a3 a4 : AV) (h : AH) : enterK Tryz.prog NN P236 c 236 [a0, a1, a2, a3, a4] h = S236 c a0 a1 a2 a3 a4 h := by kernel_rfl
def W236 (c : CV) (l : List AV) (h : AH) : R := match l with | [a0, a1, a2, a3, a4] => S236 c a0 a1 a2 a3 a4 h | _ => none
theorem W236_ok : WOk Tryz.prog 236 W236 := by
  intro c l h r e
  unfold W236 at e
  split at e
  · exact ⟨P236, by rw [S236_eq]; exact e⟩
  · cases e
/- quietus/table.open -/
def P237 : Pl := (.n none .z (.n none .z (.n none .z (.n none .z (.n none .z (.n (some [6, 5, 0]) (.n none (.r [[40, 38, 6, 5, 0], [47, 42, 6, 5, 0]]) .z) .z))))))
def S237 (c : CV) (a0 a1 : AV) (h : AH) : R :=
pCall c (.fn 283 [] []) [a0, a1] h fun v0 h1 =>
pBuild [.nilp, (.int .i64 (.ofNat 0)), (.int .i64 (.ofNat 0)), (.int .i64 (.ofNat 0)), (.int .u64 (.ofNat 0))] [(0, 1, a0), (1, 1, v0)] fun v2 =>
pBox h1 303 v2 fun v3 h4 =>
pNil v3 fun v5 =>
pFieldA v5 1 fun v6 =>
pLoad1 h4 v6 fun v7 =>
pInt .eql v7 (.int .i64 (.ofNat 0)) fun v8 =>
pCond v8 (
some (v3, h4)) (
pNil v3 fun v9 =>
pFieldA v9 1 fun v10 =>
pLoad1 h4 v10 fun v11 =>
pInt .add v11 (.int .i64 (.ofNat 0)) fun v12 =>
pCall c (.fn 233 [] []) [a0, v12] h4 fun v13 h14 =>
pNil v3 fun v15 =>
pFieldA v15 4 fun v16 =>
pStore h14 v16 v13 1 fun h17 =>
pNil v3 fun v18 =>
pFieldA v18 1 fun v19 =>
pLoad1 h17 v19 fun v20 =>
pInt .add v20 (.int .i64 (.ofNat 1)) fun v21 =>
pCall c (.fn 233 [] []) [a0, v21] h17 fun v22 h23 =>
joinC (α := AV × AV × AV × Unit → AH → List Nat → R) (fun s24 h25 d26 =>
pConvI .i64 s24.1 fun v28 =>
pNil s24.2.1 fun v29 =>
pFieldA v29 1 fun v30 =>
pLoad1 h25 v30 fun v31 =>
pInt .add v31 (.int .i64 (.ofNat 2)) fun v32 =>
pCall c (.fn 283 [] []) [s24.2.2.1, v32] h25 fun v33 h34 =>
pNil s24.2.1 fun v35 =>
pFieldA v35 2 fun v36 =>
pStore h34 v36 v28 1 fun h37 =>
pNil s24.2.1 fun v38 =>
pFieldA v38 3 fun v39 =>
pStore h37 v39 v33 1 fun h40 =>
pLeave d26 h40 fun h41 =>
some (s24.2.1, h41)) fun j27 =>
pInt .lss v22 (.int .u64 (.ofNat 2)) fun v42 =>
joinC (α := AV × AV × AV × AV × AV × Unit → AH → R) (fun s43 h44 =>
pPick s43.2.1 (.bool true) s43.1 fun v46 =>
joinC (α := AV × AV × AV × AV × AV × Unit → AH → R) (fun s47 h48 =>
pPick s47.2.1 (.bool true) s47.1 fun v50 =>
pCond v50 (
pCall c (.fn 284 [] []) [s47.2.2.2.2.1, (.int .i64 (.ofNat 2))] h48 fun _ h52 =>
j27 ((.int .u64 (.ofNat 2)), s47.2.2.2.1, s47.2.2.2.2.1, ()) h52 []) (
j27 (s47.2.2.1, s47.2.2.2.1, s47.2.2.2.2.1, ()) h48 [])) fun j49 =>
pWant v46 false (
pInt .sub s43.2.2.1 (.int .u64 (.ofNat 1)) fun v53 =>
pInt .and s43.2.2.1 v53 fun v54 =>
pInt .neq v54 (.int .u64 (.ofNat 0)) fun v55 =>
j49 (v55, v46, s43.2.2.1, s43.2.2.2.1, s43.2.2.2.2.1, ()) h44) (
j49 (.undef, v46, s43.2.2.1, s43.2.2.2.1, s43.2.2.2.2.1, ()) h44)) fun j45 =>
pWant v42 false (
pInt .gtr v22 (.int .u64 (.ofNat 16)) fun v56 =>
j45 (v56, v42, v22, v3, a0, ()) h23) (
j45 (.undef, v42, v22, v3, a0, ()) h23))
theorem S237_eq (c : CV) (a0 a1 : AV) (h : AH) : enterK Tryz.prog NN P237 c 237 [a0, a1] h = S237 c a0 a1 h := by kernel_rfl
def W237 (c : CV) (l : List AV) (h : AH) : R := match l with | [a0, a1] => S237 c a0 a1 h | _ => none
theorem W237_ok : WOk Tryz.prog 237 W237 := by
  intro c l h r e
  unfold W237 at e
  split at e
  · exact ⟨P237, by rw [S237_eq]; exact e⟩
  · cases e
/- quietus/table.made -/
def P238 : Pl := (.n none .z (.n none .z (.n none (.n none .z (.n none (.n (some [14, 5, 1, 0]) .z .z) .z)) .z)))
def S238 (c : CV) (a0 a1 : AV) (h : AH) : R :=
pCall c (.fn 229 [] []) [a0, (.int .i64 (.ofNat 3))] h fun v0 h1 =>
pCall c (.fn 229 [] []) [a0, (.int .i64 (.ofNat 2))] h1 fun v2 h3 =>
pBuild [.nilp, (.int .i64 (.ofNat 0)), (.int .i64 (.ofNat 0)), (.int .i64 (.ofNat 0)), (.int .u64 (.ofNat 0))] [(0, 1, a0), (1, 1, v0), (2, 1, (.int .i64 (.ofNat 2))), (3, 1, v2)] fun v4 =>
pBox h3 303 v4 fun v5 h6 =>
loopC (σ := AV × AV × AV × AV × Unit) NN (fun i10 s7 h8 d9 =>
pInt .lss s7.1 (.int .i64 (.ofNat 2)) fun v11 =>
pCond v11 (
pNil s7.2.1 fun v12 =>
pFieldA v12 3 fun v13 =>
pLoad1 h8 v13 fun v14 =>
pInt .add v14 s7.1 fun v15 =>
pCall c (.fn 231 [] []) [s7.2.2.2.1, v15, (.int .i64 (.ofNat 0))] h8 fun _ h17 =>
pInt .add s7.1 (.int .i64 (.ofNat 1)) fun v18 =>
i10 (v18, s7.2.1, s7.2.2.1, s7.2.2.2.1, ()) h17 d9) (
pNil s7.2.1 fun v19 =>
pFieldA v19 1 fun v20 =>
pLoad1 h8 v20 fun v21 =>
pInt .add v21 (.int .i64 (.ofNat 0)) fun v22 =>
pCall c (.fn 231 [] []) [s7.2.2.2.1, v22, (.int .i64 (.ofNat 0))] h8 fun _ h24 =>
pNil s7.2.1 fun v25 =>
pFieldA v25 1 fun v26 =>
pLoad1 h24 v26 fun v27 =>
pInt .add v27 (.int .i64 (.ofNat 1)) fun v28 =>
pCall c (.fn 231 [] []) [s7.2.2.2.1, v28, (.int .i64 (.ofNat 2))] h24 fun _ h30 =>
pNil s7.2.1 fun v31 =>
pFieldA v31 1 fun v32 =>
pLoad1 h30 v32 fun v33 =>
pInt .add v33 (.int .i64 (.ofNat 2)) fun v34 =>
pNil s7.2.1 fun v35 =>
pFieldA v35 3 fun v36 =>
pLoad1 h30 v36 fun v37 =>
pCall c (.fn 231 [] []) [s7.2.2.2.1, v34, v37] h30 fun _ h39 =>
pNil s7.2.1 fun v40 =>
pFieldA v40 1 fun v41 =>
pLoad1 h39 v41 fun v42 =>
pCall c (.fn 231 [] []) [s7.2.2.2.1, s7.2.2.1, v42] h39 fun _ h44 =>
pLeave d9 h44 fun h45 =>
some (s7.2.1, h45))) ((.int .i64 (.ofNat 0)), v5, a1, a0, ()) h6 []
theorem S238_eq (c : CV) (a0 a1 : AV) (h : AH) : enterK Tryz.prog NN P238 c 238 [a0, a1] h = S238 c a0 a1 h := by kernel_rfl
def W238 (c : CV) (l : List AV) (h : AH) : R := match l with | [a0, a1] => S238 c a0 a1 h | _ => none
theorem W238_ok : WOk Tryz.prog 238 W238 := by
  intro c l h r e
  unfold W238 at e
  split at e
  · exact ⟨P238, by rw [S238_eq]; exact e⟩
  · cases e
/- (*quietus/table.table).seek -/
def P239 : Pl := (.n none .z (.n none (.r [[4, 1, 0]]) (.n none (.n none (.n (some [4, 1, 0]) (.n none .z (.n none (.n none .z (.n none (.n none (.r [[39, 30, 5, 4, 1, 0]]) .z) .z)) .z)) .z) .z) .z)))
def S239 (c : CV) (a0 a1 : AV) (h : AH) : R :=
joinC (α := AV × AV × AV × Unit → AH → R) (fun s0 h1 =>
loopC (σ := AV × AV × AV × Unit) NN (fun i6 s3 h4 d5 =>
pNil s3.2.2.1 fun v7 =>
pFieldA v7 0 fun v8 =>
pLoad1 h4 v8 fun v9 =>
pCall c (.fn 282 [] []) [v9] h4 fun v10 h11 =>
pCond v10 (
pNil s3.2.2.1 fun v12 =>
pFieldA v12 0 fun v13 =>
pLoad1 h11 v13 fun v14 =>
pCall c (.fn 283 [] []) [v14, s3.1] h11 fun v15 h16 =>
pInt .eql v15 (.int .i64 (.ofNat 0)) fun v17 =>
joinC (α := AV × AV × AV × AV × AV × AV × Unit → AH → R) (fun s18 h19 =>
pPick s18.2.1 (.bool true) s18.1 fun v21 =>
pCond v21 (
pLeave d5 h19 fun h22 =>
some ((.tup [s18.2.2.2.1, s18.2.2.1]), h22)) (
pInt .add s18.2.2.1 (.int .i64 (.ofNat 2)) fun v23 =>
i6 (v23, s18.2.2.2.2.1, s18.2.2.2.2.2.1, ()) h19 d5)) fun j20 =>
pWant v17 false (
pNil s3.2.2.1 fun v24 =>
pFieldA v24 0 fun v25 =>
pLoad1 h16 v25 fun v26 =>
pInt .add v15 (.int .i64 (.ofNat 0)) fun v27 =>
pCall c (.fn 233 [] []) [v26, v27] h16 fun v28 h29 =>
pInt .eql v28 s3.2.1 fun v30 =>
j20 (v30, v17, v15, s3.1, s3.2.1, s3.2.2.1, ()) h29) (
j20 (.undef, v17, v15, s3.1, s3.2.1, s3.2.2.1, ()) h16)) (
pLeave d5 h11 fun h31 =>
some ((.tup [s3.1, (.int .i64 (.ofNat 0))]), h31))) (s0.1, s0.2.1, s0.2.2.1, ()) h1 []) fun j2 =>
pNil a0 fun v32 =>
pFieldA v32 3 fun v33 =>
pLoad1 h v33 fun v34 =>
pNil a0 fun v35 =>
pFieldA v35 2 fun v36 =>
pLoad1 h v36 fun v37 =>
pCall c (.fn 285 [] []) [a1, v37] h fun v38 h39 =>
pInt .add v34 v38 fun v40 =>
pChk v33 none v34 h h39 h.nx <|
j2 (v40, a1, a0, ()) h39
theorem S239_eq (c : CV) (a0 a1 : AV) (h : AH) : enterK Tryz.prog NN P239 c 239 [a0, a1] h = S239 c a0 a1 h := by kernel_rfl
def W239 (c : CV) (l : List AV) (h : AH) : R := match l with | [a0, a1] => S239 c a0 a1 h | _ => none
theorem W239_ok : WOk Tryz.prog 239 W239 := by
  intro c l h r e
  unfold W239 at e
  split at e
  · exact ⟨P239, by rw [S239_eq]; exact e⟩
  · cases e
/- (*quietus/table.table).grow -/
def P240 : Pl := (.n none .z (.n none .z (.n none .z (.n none .z (.n none .z (.n none (.n none .z (.n none (.n (some [25, 24, 23, 4, 2, 1]) .z .z) .z)) (.n none .z (.n none (.r [[4, 2, 1]]) .z))))))))
def S240 (c : CV) (a0 : AV) (h : AH) : R :=
pBox h 300 a0 fun v0 h1 =>
pLoad1 h1 v0 fun v2 =>
pNil v2 fun v3 =>
pFieldA v3 2 fun v4 =>
pLoad1 h1 v4 fun v5 =>
pInt .mul (.int .i64 (.ofNat 2)) v5 fun v6 =>
pBox h1 3 (.int .i64 (.ofNat 0)) fun v7 h8 =>
pStore h8 v7 v6 1 fun h9 =>
pLoad1 h9 v7 fun v10 =>
pMake h9 3 [(.int .i64 (.ofNat 0))] v10 v10 fun v11 h12 =>
pBox h12 56 .nils fun v13 h14 =>
pStore h14 v13 v11 1 fun h15 =>
pLoad1 h15 v0 fun v16 =>
pNil v16 fun v17 =>
pFieldA v17 0 fun v18 =>
pLoad1 h15 v18 fun v19 =>
pLoad1 h15 v7 fun v20 =>
pCall c (.fn 229 [] []) [v19, v20] h15 fun v21 h22 =>
pLoad1 h22 v0 fun v23 =>
pCall c (.fn 286 [] []) [v23, (.fn 287 [] [v0, v7, v13])] h22 fun _ h25 =>
pLoad1 h25 v13 fun v26 =>
pLenS v26 fun v27 =>
loopC (σ := AV × AV × AV × AV × AV × AV × Unit) NN (fun i31 s28 h29 d30 =>
pInt .lss s28.1 s28.2.1 fun v32 =>
pCond v32 (
pIdxS s28.2.2.1 s28.1 1 fun v33 =>
pLoad1 h29 v33 fun v34 =>
pLoad1 h29 s28.2.2.2.2.2.1 fun v35 =>
pNil v35 fun v36 =>
pFieldA v36 0 fun v37 =>
pLoad1 h29 v37 fun v38 =>
pInt .add s28.2.2.2.1 s28.1 fun v39 =>
pCall c (.fn 231 [] []) [v38, v39, v34] h29 fun _ h41 =>
pInt .add s28.1 (.int .i64 (.ofNat 1)) fun v42 =>
i31 (v42, s28.2.1, s28.2.2.1, s28.2.2.2.1, s28.2.2.2.2.1, s28.2.2.2.2.2.1, ()) h41 d30) (
pLoad1 h29 s28.2.2.2.2.2.1 fun v43 =>
pNil v43 fun v44 =>
pFieldA v44 0 fun v45 =>
pLoad1 h29 v45 fun v46 =>
pLoad1 h29 s28.2.2.2.2.2.1 fun v47 =>
pNil v47 fun v48 =>
pFieldA v48 3 fun v49 =>
pLoad1 h29 v49 fun v50 =>
pCall c (.fn 234 [] []) [v46, v50] h29 fun _ h52 =>
joinC (α := AV × AV × AV × Unit → AH → R) (fun s53 h54 =>
pLoad1 h54 s53.2.2.1 fun v56 =>
pNil v56 fun v57 =>
pFieldA v57 0 fun v58 =>
pLoad1 h54 v58 fun v59 =>
pLoad1 h54 s53.2.2.1 fun v60 =>
pNil v60 fun v61 =>
pFieldA v61 1 fun v62 =>
pLoad1 h54 v62 fun v63 =>
pInt .add v63 (.int .i64 (.ofNat 1)) fun v64 =>
pLoad1 h54 s53.2.1 fun v65 =>
pCall c (.fn 231 [] []) [v59, v64, v65] h54 fun _ h67 =>
pLoad1 h67 s53.2.2.1 fun v68 =>
pNil v68 fun v69 =>
pFieldA v69 0 fun v70 =>
pLoad1 h67 v70 fun v71 =>
pLoad1 h67 s53.2.2.1 fun v72 =>
pNil v72 fun v73 =>
pFieldA v73 1 fun v74 =>
pLoad1 h67 v74 fun v75 =>
pInt .add v75 (.int .i64 (.ofNat 2)) fun v76 =>
pCall c (.fn 231 [] []) [v71, v76, s53.1] h67 fun _ h78 =>
pLeave d30 h78 fun h79 =>
some ((.tup []), h79)) fun j55 =>
pLoad1 h52 s28.2.2.2.2.2.1 fun v80 =>
pLoad1 h52 s28.2.2.2.2.2.1 fun v81 =>
pLoad1 h52 s28.2.2.2.2.1 fun v82 =>
pNil v80 fun v83 =>
pFieldA v83 2 fun v84 =>
pStore h52 v84 v82 1 fun h85 =>
pNil v81 fun v86 =>
pFieldA v86 3 fun v87 =>
pStore h85 v87 s28.2.2.2.1 1 fun h88 =>
pChk s28.2.2.2.2.2.1 none v81 h52 h85 h52.nx <|
j55 (s28.2.2.2.1, s28.2.2.2.2.1, s28.2.2.2.2.2.1, ()) h88)) ((.int .i64 (.ofNat 0)), v27, v26, v21, v7, v0, ()) h25 []
theorem S240_eq (c : CV) (a0 : AV) (h : AH) : enterK Tryz.prog NN P240 c 240 [a0] h = S240 c a0 h := by kernel_rfl
def W240 (c : CV) (l : List AV) (h : AH) : R := match l with | [a0] => S240 c a0 h | _ => none
theorem W240_ok : WOk Tryz.prog 240 W240 := by
  intro c l h r e
  unfold W240 at e
  split at e
  · exact ⟨P240, by rw [S240_eq]; exact e⟩
  · cases e
/- (*quietus/interp.Interp).number$1 -/
def P241 : Pl := (.n none .z (.n none .z (.n none (.n none (.r [[20, 13, 4, 3, 1, 0], [25, 22, 4, 3, 0], [31, 25, 22, 4, 3, 0], [32, 22, 4, 3, 0]]) .z) .z)))
def S241 (c : CV) (a0 a1 a2 a3 a4 : AV) (h : AH) : R :=
pInt .neq a2 (.int .i64 (.ofNat 0)) fun v0 =>
pCond v0 (
some (a2, h)) (
joinC (α := AV × AV × AV × AV × AV × AV × Unit → AH → R) (fun s1 h2 =>
pPick s1.2.1 s1.1 (.bool false) fun v4 =>
joinC (α := AV × AV × AV × AV × AV × Unit → AH → R) (fun s5 h6 =>
joinC (α := AV × AV × AV × AV × AV × AV × Unit → AH → R) (fun s8 h9 =>
joinC (α := AV × AV × AV × AV × AV × Unit → AH → R) (fun s11 h12 =>
pPick s11.2.1 (.bool true) s11.1 fun v14 =>
pCond v14 (
some ((.int .i64 (.ofNat 5)), h12)) (
pLoad1 h12 s11.2.2.2.1 fun v15 =>
pFieldA s11.2.2.1 3 fun v16 =>
pLoad1 h12 v16 fun v17 =>
pNil v15 fun v18 =>
pFieldA v18 6 fun v19 =>
pIdxP v19 v17 8 1 fun v20 =>
pStore h12 v20 s11.2.2.2.2.1 1 fun h21 =>
some ((.int .i64 (.ofNat 0)), h21))) fun j13 =>
pWant s8.2.2.1 false (
pPick s8.2.1 s8.1 (.bool false) fun v22 =>
j13 (v22, s8.2.2.1, s8.2.2.2.1, s8.2.2.2.2.1, s8.2.2.2.2.2.1, ()) h9) (
j13 (.undef, s8.2.2.1, s8.2.2.2.1, s8.2.2.2.2.1, s8.2.2.2.2.2.1, ()) h9)) fun j10 =>
pWant s5.1 true (
pLoad1 h6 s5.2.2.2.1 fun v23 =>
pNil v23 fun v24 =>
pFieldA v24 14 fun v25 =>
pLoad1 h6 v25 fun v26 =>
pCall c (.fn 242 [] []) [v26] h6 fun v27 h28 =>
pUn .not v27 fun v29 =>
j10 (v29, s5.1, s5.2.1, s5.2.2.1, s5.2.2.2.1, s5.2.2.2.2.1, ()) h28) (
j10 (.undef, s5.1, s5.2.1, s5.2.2.1, s5.2.2.2.1, s5.2.2.2.2.1, ()) h6)) fun j7 =>
pWant v4 false (
pUn .not s1.2.2.2.2.1 fun v30 =>
j7 (v30, v4, s1.2.2.1, s1.2.2.2.1, s1.2.2.2.2.2.1, ()) h2) (
j7 (.undef, v4, s1.2.2.1, s1.2.2.2.1, s1.2.2.2.2.2.1, ()) h2)) fun j3 =>
pWant a1 true (
pLoad1 h a3 fun v31 =>
pNil v31 fun v32 =>
pFieldA v32 14 fun v33 =>
pLoad1 h v33 fun v34 =>
pCall c (.fn 151 [] []) [v34, a0] h fun v35 h36 =>
pUn .not v35 fun v37 =>
j3 (v37, a1, a4, a3, a1, a0, ()) h36) (
j3 (.undef, a1, a4, a3, a1, a0, ()) h))
theorem S241_eq (c : CV) (a0 a1 a2 a3 a4 : AV) (h : AH) : enterK Tryz.prog NN P241 c 241 [a0, a1, a2, a3, a4] h = S241 c a0 a1 a2 a3 a4 h := by kernel_rfl
def W241 (c : CV) (l : List AV) (h : AH) : R := match l with | [a0, a1, a2, a3, a4] => S241 c a0 a1 a2 a3 a4 h | _ => none
theorem W241_ok : WOk Tryz.prog 241 W241 := by
  intro c l h r e
  unfold W241 at e
  split at e
  · exact ⟨P241, by rw [S241_eq]; exact e⟩
  · cases e
/- (*quietus/slate.Slate).AddNone -/
def P242 : Pl := .z
def S242 (c : CV) (a0 : AV) (h : AH) : R :=
pBuild [] [] fun v0 =>
pCall c (.fn 173 [] []) [a0, (.iface 331 v0)] h fun v1 h2 =>
some (v1, h2)
theorem S242_eq (c : CV) (a0 : AV) (h : AH) : enterK Tryz.prog NN P242 c 242 [a0] h = S242 c a0 h := by kernel_rfl
def W242 (c : CV) (l : List AV) (h : AH) : R := match l with | [a0] => S242 c a0 h | _ => none
theorem W242_ok : WOk Tryz.prog 242 W242 := by
  intro c l h r e
  unfold W242 at e
  split at e
  · exact ⟨P242, by rw [S242_eq]; exact e⟩
  · cases e
/- quietus/table.Get$1 -/
def P243 : Pl := (.n none .z (.n none (.n none (.r [[20, 15, 6, 4, 3, 2, 0]]) .z) .z))
def S243 (c : CV) (a0 a1 a2 a3 a4 : AV) (h : AH) : R :=
pLoad1 h a1 fun v0 =>
pCall c (.fn 237 [] []) [a0, v0] h fun v1 h2 =>
pCall c (.fn 227 [] []) [a0] h2 fun v3 h4 =>
pUn .not v3 fun v5 =>
joinC (α := AV × AV × AV × AV × AV × AV × AV × Unit → AH → R) (fun s6 h7 =>
pPick s6.2.1 (.bool true) s6.1 fun v9 =>
pCond v9 (
some ((.tup []), h7)) (
pLoad1 h7 s6.2.2.2.2.2.1 fun v10 =>
pCall c (.fn 239 [] []) [s6.2.2.1, v10] h7 fun v11 h12 =>
pExtract v11 0 fun _ =>
pExtract v11 1 fun v14 =>
pInt .neq v14 (.int .i64 (.ofNat 0)) fun v15 =>
pCond v15 (
pInt .add v14 (.int .i64 (.ofNat 1)) fun v16 =>
pCall c (.fn 233 [] []) [s6.2.2.2.2.2.2.1, v16] h12 fun v17 h18 =>
pStore h18 s6.2.2.2.2.1 v17 1 fun h19 =>
pStore h19 s6.2.2.2.1 (.bool true) 1 fun h20 =>
some ((.tup []), h20)) (
some ((.tup []), h12)))) fun j8 =>
pWant v5 false (
pNil v1 fun v21 =>
pFieldA v21 1 fun v22 =>
pLoad1 h4 v22 fun v23 =>
pInt .eql v23 (.int .i64 (.ofNat 0)) fun v24 =>
j8 (v24, v5, v1, a4, a3, a2, a0, ()) h4) (
j8 (.undef, v5, v1, a4, a3, a2, a0, ()) h4)
theorem S243_eq (c : CV) (a0 a1 a2 a3 a4 : AV) (h : AH) : enterK Tryz.prog NN P243 c 243 [a0, a1, a2, a3, a4] h = S243 c a0 a1 a2 a3 a4 h := by kernel_rfl
def W243 (c : CV) (l : List AV) (h : AH) : R := match l with | [a0, a1, a2, a3, a4] => S243 c a0 a1 a2 a3 a4 h | _ => none
theorem W243_ok : WOk Tryz.prog 243 W243 := by
  intro c l h r e
  unfold W243 at e
  split at e
  · exact ⟨P243, by rw [S243_eq]; exact e⟩
  · cases e
/- quietus/table.Del$1 -/
def P244 : Pl := (.n none .z (.n none (.n none (.r [[19, 14, 5, 3, 2, 0]]) .z) .z))
def S244 (c : CV) (a0 a1 a2 a3 : AV) (h : AH) : R :=
pLoad1 h a1 fun v0 =>
pCall c (.fn 237 [] []) [a0, v0] h fun v1 h2 =>
pCall c (.fn 227 [] []) [a0] h2 fun v3 h4 =>
pUn .not v3 fun v5 =>
joinC (α := AV × AV × AV × AV × AV × AV × Unit → AH → R) (fun s6 h7 =>
pPick s6.2.1 (.bool true) s6.1 fun v9 =>
pCond v9 (
some ((.tup []), h7)) (
pLoad1 h7 s6.2.2.2.2.1 fun v10 =>
pCall c (.fn 239 [] []) [s6.2.2.1, v10] h7 fun v11 h12 =>
pExtract v11 0 fun v13 =>
pExtract v11 1 fun v14 =>
pInt .neq v14 (.int .i64 (.ofNat 0)) fun v15 =>
pCond v15 (
pInt .add v14 (.int .i64 (.ofNat 2)) fun v16 =>
pCall c (.fn 233 [] []) [s6.2.2.2.2.2.1, v16] h12 fun v17 h18 =>
pCall c (.fn 230 [] []) [s6.2.2.2.2.2.1, v13, v17] h18 fun _ h20 =>
pNil s6.2.2.1 fun v21 =>
pFieldA v21 1 fun v22 =>
pLoad1 h20 v22 fun v23 =>
pInt .add v23 (.int .i64 (.ofNat 0)) fun v24 =>
pNil s6.2.2.1 fun v25 =>
pFieldA v25 4 fun v26 =>
pLoad1 h20 v26 fun v27 =>
pInt .sub v27 (.int .u64 (.ofNat 1)) fun v28 =>
pCall c (.fn 230 [] []) [s6.2.2.2.2.2.1, v24, v28] h20 fun _ h30 =>
pCall c (.fn 234 [] []) [s6.2.2.2.2.2.1, v14] h30 fun _ h32 =>
pStore h32 s6.2.2.2.1 (.bool true) 1 fun h33 =>
some ((.tup []), h33)) (
some ((.tup []), h12)))) fun j8 =>
pWant v5 false (
pNil v1 fun v34 =>
pFieldA v34 1 fun v35 =>
pLoad1 h4 v35 fun v36 =>
pInt .eql v36 (.int .i64 (.ofNat 0)) fun v37 =>
j8 (v37, v5, v1, a3, a2, a0, ()) h4) (
j8 (.undef, v5, v1, a3, a2, a0, ()) h4)
theorem S244_eq (c : CV) (a0 a1 a2 a3 : AV) (h : AH) : enterK Tryz.prog NN P244 c 244 [a0, a1, a2, a3] h = S244 c a0 a1 a2 a3 h := by kernel_rfl
def W244 (c : CV) (l : List AV) (h : AH) : R := match l with | [a0, a1, a2, a3] => S244 c a0 a1 a2 a3 h | _ => none
theorem W244_ok : WOk Tryz.prog 244 W244 := by
  intro c l h r e
  unfold W244 at e
  split at e
  · exact ⟨P244, by rw [S244_eq]; exact e⟩
  · cases e
/- quietus/queue.Push -/
def P245 : Pl := .z
def S245 (c : CV) (a0 a1 a2 : AV) (h : AH) : R :=
pBox h 3 a1 fun v0 h1 =>
pBox h1 22 a2 fun v2 h3 =>
pLoad1 h3 v0 fun v4 =>
pCall c (.fn 224 [] []) [a0, v4, (.fn 288 [] [v0, v2])] h3 fun v5 h6 =>
some (v5, h6)
theorem S245_eq (c : CV) (a0 a1 a2 : AV) (h : AH) : enterK Tryz.prog NN P245 c 245 [a0, a1, a2] h = S245 c a0 a1 a2 h := by kernel_rfl
def W245 (c : CV) (l : List AV) (h : AH) : R := match l with | [a0, a1, a2] => S245 c a0 a1 a2 h | _ => none
theorem W245_ok : WOk Tryz.prog 245 W245 := by
  intro c l h r e
  unfold W245 at e
  split at e
  · exact ⟨P245, by rw [S245_eq]; exact e⟩
  · cases e
/- quietus/queue.Take -/
def P246 : Pl := .z
def S246 (c : CV) (a0 a1 : AV) (h : AH) : R :=
pBox h 3 a1 fun v0 h1 =>
pBox h1 22 (.int .u64 (.ofNat 0)) fun v2 h3 =>
pBox h3 4 (.bool false) fun v4 h5 =>
pStore h5 v2 (.int .u64 (.ofNat 0)) 1 fun h6 =>
pStore h6 v4 (.bool false) 1 fun h7 =>
pLoad1 h7 v0 fun v8 =>
pCall c (.fn 224 [] []) [a0, v8, (.fn 289 [] [v0, v2, v4])] h7 fun v9 h10 =>
pInt .neq v9 (.int .i64 (.ofNat 0)) fun v11 =>
pCond v11 (
some ((.tup [(.int .u64 (.ofNat 0)), (.bool false), v9]), h10)) (
pLoad1 h10 v2 fun v12 =>
pLoad1 h10 v4 fun v13 =>
some ((.tup [v12, v13, (.int .i64 (.ofNat 0))]), h10))
theorem S246_eq (c : CV) (a0 a1 : AV) (h : AH) : enterK Tryz.prog NN P246 c 246 [a0, a1] h = S246 c a0 a1 h := by kernel_rfl
def W246 (c : CV) (l : List AV) (h : AH) : R := match l with | [a0, a1] => S246 c a0 a1 h | _ => none
theorem W246_ok : WOk Tryz.prog 246 W246 := by
  intro c l h r e
  unfold W246 at e
  split at e
  · exact ⟨P246, by rw [S246_eq]; exact e⟩
  · cases e
/- quietus/tree.Put$1 -/
def P247 : Pl := .z
def S247 (c : CV) (a0 a1 a2 a3 a4 : AV) (h : AH) : R :=
pLoad1 h a1 fun v0 =>
pBuild [.nilp, (.int .i64 (.ofNat 0)), .nils] [(0, 1, a0), (1, 1, v0)] fun v1 =>
pBox h 310 v1 fun v2 h3 =>
pLoad1 h3 a2 fun v4 =>
pCall c (.fn 248 [] []) [v2, v4] h3 fun v5 h6 =>
pCall c (.fn 227 [] []) [a0] h6 fun v7 h8 =>
pUn .not v7 fun v9 =>
pCond v9 (
some ((.tup []), h8)) (
pInt .neq v5 (.int .i64 (.ofNat 0)) fun v10 =>
pCond v10 (
pInt .add v5 (.int .i64 (.ofNat 1)) fun v11 =>
pLoad1 h8 a3 fun v12 =>
pCall c (.fn 230 [] []) [a0, v11, v12] h8 fun _ h14 =>
some ((.tup []), h14)) (
pCall c (.fn 229 [] []) [a0, (.int .i64 (.ofNat 4))] h8 fun v15 h16 =>
pInt .add v15 (.int .i64 (.ofNat 0)) fun v17 =>
pLoad1 h16 a2 fun v18 =>
pCall c (.fn 230 [] []) [a0, v17, v18] h16 fun _ h20 =>
pInt .add v15 (.int .i64 (.ofNat 1)) fun v21 =>
pLoad1 h20 a3 fun v22 =>
pCall c (.fn 230 [] []) [a0, v21, v22] h20 fun _ h24 =>
pInt .add v15 (.int .i64 (.ofNat 2)) fun v25 =>
pCall c (.fn 230 [] []) [a0, v25, (.int .u64 (.ofNat 1))] h24 fun _ h27 =>
pInt .add v15 (.int .i64 (.ofNat 3)) fun v28 =>
pCall c (.fn 231 [] []) [a0, v28, (.int .i64 (.ofNat 0))] h27 fun _ h30 =>
pNil v2 fun v31 =>
pFieldA v31 2 fun v32 =>
pLoad1 h30 v32 fun v33 =>
pLenS v33 fun v34 =>
pCall c (.fn 249 [] []) [v2, v34, v15] h30 fun _ h36 =>
pCall c (.fn 250 [] []) [v2] h36 fun _ h38 =>
pStore h38 a4 (.bool true) 1 fun h39 =>
some ((.tup []), h39)))
theorem S247_eq (c : CV) (a0 a1 a2 a3 a4 : AV) (h : AH) : enterK Tryz.prog NN P247 c 247 [a0, a1, a2, a3, a4] h = S247 c a0 a1 a2 a3 a4 h := by kernel_rfl
def W247 (c : CV) (l : List AV) (h : AH) : R := match l with | [a0, a1, a2, a3, a4] => S247 c a0 a1 a2 a3 a4 h | _ => none
theorem W247_ok : WOk Tryz.prog 247 W247 := by
  intro c l h r e
  unfold W247 at e
  split at e
  · exact ⟨P247, by rw [S247_eq]; exact e⟩
  · cases e
/- (*quietus/tree.tree).seek -/
def P248 : Pl := (.n none .z (.n none .z (.n none (.n none .z (.n none (.n (some [5, 1, 0]) (.n none (.n none (.r [[20, 15, 5, 1, 0]]) .z) (.n none (.n none .z (.n none .z (.n none .z (.n (some [7, 5, 1, 0]) .z .z)))) .z)) .z) .z)) .z)))
def S248 (c : CV) (a0 a1 : AV) (h : AH) : R :=
pNil a0 fun v0 =>
pFieldA v0 2 fun v1 =>
pStore h v1 .nils 1 fun h2 =>
pCall c (.fn 256 [] []) [a0] h2 fun v3 h4 =>
loopC (σ := AV × AV × AV × Unit) NN (fun i8 s5 h6 d7 =>
pInt .neq s5.1 (.int .i64 (.ofNat 0)) fun v9 =>
joinC (α := AV × AV × AV × AV × AV × Unit → AH → R) (fun s10 h11 =>
pPick s10.2.1 s10.1 (.bool false) fun v13 =>
pCond v13 (
pNil s10.2.2.2.2.1 fun v14 =>
pFieldA v14 0 fun v15 =>
pLoad1 h11 v15 fun v16 =>
pInt .add s10.2.2.1 (.int .i64 (.ofNat 0)) fun v17 =>
pCall c (.fn 233 [] []) [v16, v17] h11 fun v18 h19 =>
pInt .eql v18 s10.2.2.2.1 fun v20 =>
pCond v20 (
pLeave d7 h19 fun h21 =>
some (s10.2.2.1, h21)) (
joinC (α := AV × AV × AV × AV × Unit → AH → List Nat → R) (fun s22 h23 d24 =>
pNil s22.2.2.2.1 fun v26 =>
pFieldA v26 2 fun v27 =>
pLoad1 h23 v27 fun v28 =>
pBuild [(.int .i64 (.ofNat 0)), (.int .i64 (.ofNat 0))] [(0, 1, s22.2.1), (1, 1, s22.1)] fun v29 =>
pBuildS h23 333 [(.int .i64 (.ofNat 0)), (.int .i64 (.ofNat 0))] 1 [(0, 2, v29)] fun v30 h31 =>
pAppend h31 333 2 v28 v30 fun v32 h33 =>
pNil s22.2.2.2.1 fun v34 =>
pFieldA v34 2 fun v35 =>
pStore h33 v35 v32 1 fun h36 =>
pCall c (.fn 290 [] []) [s22.2.2.2.1, s22.2.1, s22.1] h36 fun v37 h38 =>
i8 (v37, s22.2.2.1, s22.2.2.2.1, ()) h38 d24) fun j25 =>
pInt .gtr s10.2.2.2.1 v18 fun v39 =>
pCond v39 (
j25 ((.int .i64 (.ofNat 1)), s10.2.2.1, s10.2.2.2.1, s10.2.2.2.2.1, ()) h19 d7) (
j25 ((.int .i64 (.ofNat 0)), s10.2.2.1, s10.2.2.2.1, s10.2.2.2.2.1, ()) h19 d7))) (
pLeave d7 h11 fun h40 =>
some ((.int .i64 (.ofNat 0)), h40))) fun j12 =>
pWant v9 true (
pNil s5.2.2.1 fun v41 =>
pFieldA v41 0 fun v42 =>
pLoad1 h6 v42 fun v43 =>
pCall c (.fn 282 [] []) [v43] h6 fun v44 h45 =>
j12 (v44, v9, s5.1, s5.2.1, s5.2.2.1, ()) h45) (
j12 (.undef, v9, s5.1, s5.2.1, s5.2.2.1, ()) h6)) (v3, a1, a0, ()) h4 []
theorem S248_eq (c : CV) (a0 a1 : AV) (h : AH) : enterK Tryz.prog NN P248 c 248 [a0, a1] h = S248 c a0 a1 h := by kernel_rfl
def W248 (c : CV) (l : List AV) (h : AH) : R := match l with | [a0, a1] => S248 c a0 a1 h | _ => none
theorem W248_ok : WOk Tryz.prog 248 W248 := by
  intro c l h r e
  unfold W248 at e
  split at e
  · exact ⟨P248, by rw [S248_eq]; exact e⟩
  · cases e
/- (*quietus/tree.tree).link -/
def P249 : Pl := .z
def S249 (c : CV) (a0 a1 a2 : AV) (h : AH) : R :=
pInt .eql a1 (.int .i64 (.ofNat 0)) fun v0 =>
pCond v0 (
pNil a0 fun v1 =>
pFieldA v1 0 fun v2 =>
pLoad1 h v2 fun v3 =>
pNil a0 fun v4 =>
pFieldA v4 1 fun v5 =>
pLoad1 h v5 fun v6 =>
pCall c (.fn 231 [] []) [v3, v6, a2] h fun _ h8 =>
some ((.tup []), h8)) (
pNil a0 fun v9 =>
pFieldA v9 2 fun v10 =>
pLoad1 h v10 fun v11 =>
pInt .sub a1 (.int .i64 (.ofNat 1)) fun v12 =>
pIdxS v11 v12 2 fun v13 =>
pFieldA v13 0 fun v14 =>
pLoad1 h v14 fun v15 =>
pNil a0 fun v16 =>
pFieldA v16 2 fun v17 =>
pLoad1 h v17 fun v18 =>
pInt .sub a1 (.int .i64 (.ofNat 1)) fun v19 =>
pIdxS v18 v19 2 fun v20 =>
pFieldA v20 1 fun v21 =>
pLoad1 h v21 fun v22 =>
pCall c (.fn 291 [] []) [a0, v15, v22, a2] h fun _ h24 =>
some ((.tup []), h24))
theorem S249_eq (c : CV) (a0 a1 a2 : AV) (h : AH) : enterK Tryz.prog NN P249 c 249 [a0, a1, a2] h = S249 c a0 a1 a2 h := by kernel_rfl
def W249 (c : CV) (l : List AV) (h : AH) : R := match l with | [a0, a1, a2] => S249 c a0 a1 a2 h | _ => none
theorem W249_ok : WOk Tryz.prog 249 W249 := by
  intro c l h r e
  unfold W249 at e
  split at e
  · exact ⟨P249, by rw [S249_eq]; exact e⟩
  · cases e
/- (*quietus/tree.tree).raised -/
def P250 : Pl := (.n none (.n none (.n (some [0]) (.n none (.n none (.r [[17, 12, 0]]) .z) (.n none (.n none .z (.n none (.r [[4, 3, 2, 0]]) .z)) .z)) .z) .z) (.n none (.r [[92, 87, 0]]) .z))
def S250 (c : CV) (a0 : AV) (h : AH) : R :=
loopC (σ := AV × Unit) NN (fun i3 s0 h1 d2 =>
pNil s0.1 fun v4 =>
pFieldA v4 2 fun v5 =>
pLoad1 h1 v5 fun v6 =>
pLenS v6 fun v7 =>
pInt .geq v7 (.int .i64 (.ofNat 2)) fun v8 =>
joinC (α := AV × AV × AV × Unit → AH → R) (fun s9 h10 =>
pPick s9.2.1 s9.1 (.bool false) fun v12 =>
pCond v12 (
pNil s9.2.2.1 fun v13 =>
pFieldA v13 2 fun v14 =>
pLoad1 h10 v14 fun v15 =>
pLenS v15 fun v16 =>
joinC (α := AV × AV × AV × AV × Unit → AH → R) (fun s17 h18 =>
pFieldA s17.2.1 0 fun v20 =>
pLoad1 h18 v20 fun v21 =>
pCall c (.fn 292 [] []) [s17.2.2.2.1, v21] h18 fun v22 h23 =>
pUn .not v22 fun v24 =>
pCond v24 (
pLeave d2 h23 fun h25 =>
some ((.tup []), h25)) (
pFieldA s17.1 0 fun v26 =>
pLoad1 h23 v26 fun v27 =>
pFieldA s17.1 1 fun v28 =>
pLoad1 h23 v28 fun v29 =>
pInt .sub (.int .i64 (.ofNat 1)) v29 fun v30 =>
pCall c (.fn 290 [] []) [s17.2.2.2.1, v27, v30] h23 fun v31 h32 =>
pCall c (.fn 292 [] []) [s17.2.2.2.1, v31] h32 fun v33 h34 =>
pUn .not v33 fun v35 =>
pCond v35 (
pLoadN h34 s17.2.1 2 fun v36 =>
pLoadN h34 s17.1 2 fun v37 =>
pCall c (.fn 293 [] []) [s17.2.2.2.1, v36, v37] h34 fun _ h39 =>
pLeave d2 h39 fun h40 =>
some ((.tup []), h40)) (
pFieldA s17.2.1 0 fun v41 =>
pLoad1 h34 v41 fun v42 =>
pCall c (.fn 294 [] []) [s17.2.2.2.1, v42, (.bool false)] h34 fun _ h44 =>
pCall c (.fn 294 [] []) [s17.2.2.2.1, v31, (.bool false)] h44 fun _ h46 =>
pFieldA s17.1 0 fun v47 =>
pLoad1 h46 v47 fun v48 =>
pCall c (.fn 294 [] []) [s17.2.2.2.1, v48, (.bool true)] h46 fun _ h50 =>
pNil s17.2.2.2.1 fun v51 =>
pFieldA v51 2 fun v52 =>
pLoad1 h50 v52 fun v53 =>
pInt .sub s17.2.2.1 (.int .i64 (.ofNat 2)) fun v54 =>
pSlice h50 333 2 v53 none (some v54) fun v55 =>
pNil s17.2.2.2.1 fun v56 =>
pFieldA v56 2 fun v57 =>
pStore h50 v57 v55 1 fun h58 =>
i3 (s17.2.2.2.1, ()) h58 d2))) fun j19 =>
pNil s9.2.2.1 fun v59 =>
pFieldA v59 2 fun v60 =>
pLoad1 h10 v60 fun v61 =>
pInt .sub v16 (.int .i64 (.ofNat 1)) fun v62 =>
pIdxS v61 v62 2 fun v63 =>
pLoadN h10 v63 2 fun v64 =>
pNil s9.2.2.1 fun v65 =>
pFieldA v65 2 fun v66 =>
pLoad1 h10 v66 fun v67 =>
pInt .sub v16 (.int .i64 (.ofNat 2)) fun v68 =>
pIdxS v67 v68 2 fun v69 =>
pLoadN h10 v69 2 fun v70 =>
pBox h10 333 (.agg [(.int .i64 (.ofNat 0)), (.int .i64 (.ofNat 0))]) fun v71 h72 =>
pBox h72 333 (.agg [(.int .i64 (.ofNat 0)), (.int .i64 (.ofNat 0))]) fun v73 h74 =>
pStore h74 v71 v64 2 fun h75 =>
pStore h75 v73 v70 2 fun h76 =>
pChk v69 (some 2) v70 h74 h75 h10.nx <|
pChk v66 none v67 h74 h75 h10.nx <|
j19 (v73, v71, v16, s9.2.2.1, ()) h76) (
pNil s9.2.2.1 fun v77 =>
pFieldA v77 2 fun v78 =>
pLoad1 h10 v78 fun v79 =>
pLenS v79 fun v80 =>
pInt .lss v80 (.int .i64 (.ofNat 2)) fun v81 =>
joinC (α := AV × AV × AV × Unit → AH → R) (fun s82 h83 =>
pPick s82.2.1 s82.1 (.bool false) fun v85 =>
pCond v85 (
pCall c (.fn 256 [] []) [s82.2.2.1] h83 fun v86 h87 =>
pCall c (.fn 294 [] []) [s82.2.2.1, v86, (.bool false)] h87 fun _ h89 =>
pLeave d2 h89 fun h90 =>
some ((.tup []), h90)) (
pLeave d2 h83 fun h91 =>
some ((.tup []), h91))) fun j84 =>
pWant v81 true (
pNil s9.2.2.1 fun v92 =>
pFieldA v92 0 fun v93 =>
pLoad1 h10 v93 fun v94 =>
pCall c (.fn 227 [] []) [v94] h10 fun v95 h96 =>
j84 (v95, v81, s9.2.2.1, ()) h96) (
j84 (.undef, v81, s9.2.2.1, ()) h10))) fun j11 =>
pWant v8 true (
pNil s0.1 fun v97 =>
pFieldA v97 0 fun v98 =>
pLoad1 h1 v98 fun v99 =>
pCall c (.fn 282 [] []) [v99] h1 fun v100 h101 =>
j11 (v100, v8, s0.1, ()) h101) (
j11 (.undef, v8, s0.1, ()) h1)) (a0, ()) h []
theorem S250_eq (c : CV) (a0 : AV) (h : AH) : enterK Tryz.prog NN P250 c 250 [a0] h = S250 c a0 h := by kernel_rfl
def W250 (c : CV) (l : List AV) (h : AH) : R := match l with | [a0] => S250 c a0 h | _ => none
theorem W250_ok : WOk Tryz.prog 250 W250 := by
  intro c l h r e
  unfold W250 at e
  split at e
  · exact ⟨P250, by rw [S250_eq]; exact e⟩
  · cases e
/- quietus/tree.Get$1 -/
def P251 : Pl := .z
def S251 (c : CV) (a0 a1 a2 a3 a4 : AV) (h : AH) : R :=
pLoad1 h a1 fun v0 =>
pBuild [.nilp, (.int .i64 (.ofNat 0)), .nils] [(0, 1, a0), (1, 1, v0)] fun v1 =>
pBox h 310 v1 fun v2 h3 =>
pLoad1 h3 a2 fun v4 =>
pCall c (.fn 248 [] []) [v2, v4] h3 fun v5 h6 =>
pInt .neq v5 (.int .i64 (.ofNat 0)) fun v7 =>
pCond v7 (
pInt .add v5 (.int .i64 (.ofNat 1)) fun v8 =>
pCall c (.fn 233 [] []) [a0, v8] h6 fun v9 h10 =>
pStore h10 a3 v9 1 fun h11 =>
pStore h11 a4 (.bool true) 1 fun h12 =>
some ((.tup []), h12)) (
some ((.tup []), h6))
theorem S251_eq (c : CV) (a0 a1 a2 a3 a4 : AV) (h : AH) : enterK Tryz.prog NN P251 c 251 [a0, a1, a2, a3, a4] h = S251 c a0 a1 a2 a3 a4 h := by kernel_rfl
def W251 (c : CV) (l : List AV) (h : AH) : R := match l with | [a0, a1, a2, a3, a4] => S251 c a0 a1 a2 a3 a4 h | _ => none
theorem W251_ok : WOk Tryz.prog 251 W251 := by
  intro c l h r e
  unfold W251 at e
  split at e
  · exact ⟨P251, by rw [S251_eq]; exact e⟩
  · cases e
/- quietus/tree.Del$1 -/
def P252 : Pl := (.n none .z (.n none .z (.n none (.r [[18, 16, 6, 5, 3]]) .z)))
def S252 (c : CV) (a0 a1 a2 a3 : AV) (h : AH) : R :=
pLoad1 h a1 fun v0 =>
pBuild [.nilp, (.int .i64 (.ofNat 0)), .nils] [(0, 1, a0), (1, 1, v0)] fun v1 =>
pBox h 310 v1 fun v2 h3 =>
pLoad1 h3 a2 fun v4 =>
pCall c (.fn 248 [] []) [v2, v4] h3 fun v5 h6 =>
pInt .neq v5 (.int .i64 (.ofNat 0)) fun v7 =>
joinC (α := AV × AV × AV × AV × AV × Unit → AH → R) (fun s8 h9 =>
pPick s8.2.1 s8.1 (.bool false) fun v11 =>
pCond v11 (
pCall c (.fn 253 [] []) [s8.2.2.2.1, s8.2.2.1] h9 fun _ h13 =>
pStore h13 s8.2.2.2.2.1 (.bool true) 1 fun h14 =>
some ((.tup []), h14)) (
some ((.tup []), h9))) fun j10 =>
pWant v7 true (
pCall c (.fn 227 [] []) [a0] h6 fun v15 h16 =>
j10 (v15, v7, v5, v2, a3, ()) h16) (
j10 (.undef, v7, v5, v2, a3, ()) h6)
theorem S252_eq (c : CV) (a0 a1 a2 a3 : AV) (h : AH) : enterK Tryz.prog NN P252 c 252 [a0, a1, a2, a3] h = S252 c a0 a1 a2 a3 h := by kernel_rfl
def W252 (c : CV) (l : List AV) (h : AH) : R := match l with | [a0, a1, a2, a3] => S252 c a0 a1 a2 a3 h | _ => none
theorem W252_ok : WOk Tryz.prog 252 W252 := by
  intro c l h r e
  unfold W252 at e
  split at e
  · exact ⟨P252, by rw [S252_eq]; exact e⟩
  · cases e
/- (*quietus/tree.tree).cut -/
def P253 : Pl := (.n (some [1, 0]) (.n none (.r [[15, 11, 1, 0]]) (.n none (.n none .z (.n none (.r [[4, 1, 0]]) (.n none (.r [[4, 0]]) .z))) .z)) (.n none .z (.n (some [5, 1, 0]) .z (.n none .z (.n none .z (.n none (.n (some [1, 0]) .z .z) .z))))))
def S253 (c : CV) (a0 a1 : AV) (h : AH) : R :=
joinC (α := AV × AV × Unit → AH → List Nat → R) (fun s0 h1 d2 =>
pCall c (.fn 290 [] []) [s0.2.1, s0.1, (.int .i64 (.ofNat 0))] h1 fun v4 h5 =>
joinC (α := AV × AV × AV × Unit → AH → List Nat → R) (fun s6 h7 d8 =>
pCall c (.fn 292 [] []) [s6.2.2.1, s6.2.1] h7 fun v10 h11 =>
pNil s6.2.2.1 fun v12 =>
pFieldA v12 2 fun v13 =>
pLoad1 h11 v13 fun v14 =>
pLenS v14 fun v15 =>
pCall c (.fn 249 [] []) [s6.2.2.1, v15, s6.1] h11 fun _ h17 =>
joinC (α := AV × AV × Unit → AH → List Nat → R) (fun s18 h19 d20 =>
pNil s18.2.1 fun v22 =>
pFieldA v22 0 fun v23 =>
pLoad1 h19 v23 fun v24 =>
pCall c (.fn 234 [] []) [v24, s18.1] h19 fun _ h26 =>
pLeave d20 h26 fun h27 =>
some ((.tup []), h27)) fun j21 =>
pCond v10 (
j21 (s6.2.1, s6.2.2.1, ()) h17 d8) (
pCall c (.fn 292 [] []) [s6.2.2.1, s6.1] h17 fun v28 h29 =>
pCond v28 (
pCall c (.fn 294 [] []) [s6.2.2.1, s6.1, (.bool false)] h29 fun _ h31 =>
j21 (s6.2.1, s6.2.2.1, ()) h31 d8) (
pCall c (.fn 296 [] []) [s6.2.2.1] h29 fun _ h33 =>
j21 (s6.2.1, s6.2.2.1, ()) h33 d8))) fun j9 =>
pInt .eql v4 (.int .i64 (.ofNat 0)) fun v34 =>
pCond v34 (
pCall c (.fn 290 [] []) [s0.2.1, s0.1, (.int .i64 (.ofNat 1))] h5 fun v35 h36 =>
j9 (v35, s0.1, s0.2.1, ()) h36 d2) (
j9 (v4, s0.1, s0.2.1, ()) h5 d2)) fun j3 =>
pCall c (.fn 290 [] []) [a0, a1, (.int .i64 (.ofNat 0))] h fun v37 h38 =>
pInt .neq v37 (.int .i64 (.ofNat 0)) fun v39 =>
joinC (α := AV × AV × AV × AV × Unit → AH → R) (fun s40 h41 =>
pPick s40.2.1 s40.1 (.bool false) fun v43 =>
pCond v43 (
pCall c (.fn 295 [] []) [s40.2.2.2.1, s40.2.2.1] h41 fun v44 h45 =>
joinC (α := AV × AV × AV × Unit → AH → R) (fun s46 h47 =>
joinC (α := AV × AV × Unit → AH → R) (fun s49 h50 =>
j3 (s49.1, s49.2.1, ()) h50 []) fun j51 =>
pNil s46.2.2.1 fun v52 =>
pFieldA v52 0 fun v53 =>
pLoad1 h47 v53 fun v54 =>
pInt .add s46.2.1 (.int .i64 (.ofNat 1)) fun v55 =>
pNil s46.2.2.1 fun v56 =>
pFieldA v56 0 fun v57 =>
pLoad1 h47 v57 fun v58 =>
pInt .add s46.1 (.int .i64 (.ofNat 1)) fun v59 =>
pCall c (.fn 233 [] []) [v58, v59] h47 fun v60 h61 =>
pCall c (.fn 230 [] []) [v54, v55, v60] h61 fun _ h63 =>
pChk v53 none v54 h47 h61 h47.nx <|
j51 (s46.1, s46.2.2.1, ()) h63) fun j48 =>
pNil s40.2.2.2.1 fun v64 =>
pFieldA v64 0 fun v65 =>
pLoad1 h45 v65 fun v66 =>
pInt .add s40.2.2.1 (.int .i64 (.ofNat 0)) fun v67 =>
pNil s40.2.2.2.1 fun v68 =>
pFieldA v68 0 fun v69 =>
pLoad1 h45 v69 fun v70 =>
pInt .add v44 (.int .i64 (.ofNat 0)) fun v71 =>
pCall c (.fn 233 [] []) [v70, v71] h45 fun v72 h73 =>
pCall c (.fn 230 [] []) [v66, v67, v72] h73 fun _ h75 =>
pChk v65 none v66 h45 h73 h45.nx <|
j48 (v44, s40.2.2.1, s40.2.2.2.1, ()) h75) (
j3 (s40.2.2.1, s40.2.2.2.1, ()) h41 [])) fun j42 =>
pWant v39 true (
pCall c (.fn 290 [] []) [a0, a1, (.int .i64 (.ofNat 1))] h38 fun v76 h77 =>
pInt .neq v76 (.int .i64 (.ofNat 0)) fun v78 =>
j42 (v78, v39, a1, a0, ()) h77) (
j42 (.undef, v39, a1, a0, ()) h38)
theorem S253_eq (c : CV) (a0 a1 : AV) (h : AH) : enterK Tryz.prog NN P253 c 253 [a0, a1] h = S253 c a0 a1 h := by kernel_rfl
def W253 (c : CV) (l : List AV) (h : AH) : R := match l with | [a0, a1] => S253 c a0 a1 h | _ => none
theorem W253_ok : WOk Tryz.prog 253 W253 := by
  intro c l h r e
  unfold W253 at e
  split at e
  · exact ⟨P253, by rw [S253_eq]; exact e⟩
  · cases e
/- quietus/tree.Range$1 -/
def P254 : Pl := (.n none .z (.r [[]]))
def S254 (c : CV) (a0 a1 a2 a3 a4 : AV) (h : AH) : R :=
pLoad1 h a1 fun v0 =>
pBuild [.nilp, (.int .i64 (.ofNat 0)), .nils] [(0, 1, a0), (1, 1, v0)] fun v1 =>
pBox h 310 v1 fun v2 h3 =>
joinC (α := Unit → AH → R) (fun _ h5 =>
some ((.tup []), h5)) fun j6 =>
pCall c (.fn 256 [] []) [v2] h3 fun v7 h8 =>
pLoad1 h8 a2 fun v9 =>
pLoad1 h8 a3 fun v10 =>
pCall c (.fn 255 [] []) [v2, v7, v9, v10, .nils] h8 fun v11 h12 =>
pStore h12 a4 v11 1 fun h13 =>
pChk a3 none v10 h3 h8 h3.nx <|
pChk a2 none v9 h3 h8 h3.nx <|
j6 (()) h13
theorem S254_eq (c : CV) (a0 a1 a2 a3 a4 : AV) (h : AH) : enterK Tryz.prog NN P254 c 254 [a0, a1, a2, a3, a4] h = S254 c a0 a1 a2 a3 a4 h := by kernel_rfl
def W254 (c : CV) (l : List AV) (h : AH) : R := match l with | [a0, a1, a2, a3, a4] => S254 c a0 a1 a2 a3 a4 h | _ => none
theorem W254_ok : WOk Tryz.prog 254 W254 := by
  intro c l h r e
  unfold W254 at e
  split at e
  · exact ⟨P254, by rw [S254_eq]; exact e⟩
  · cases e
/- (*quietus/tree.tree).between -/
def P255 : Pl := (.n none .z (.n none (.n none (.r [[20, 14, 4, 3, 2, 1, 0]]) .z) (.n none .z (.n (some [11, 4, 3, 2, 1, 0]) .z (.n (some [11, 4, 3, 2, 1, 0]) (.n none (.r [[47, 44, 11, 4, 3, 2, 1, 0]]) .z) (.n (some [4]) .z .z))))))
def S255 (c : CV) (a0 a1 a2 a3 a4 : AV) (h : AH) : R :=
pInt .eql a1 (.int .i64 (.ofNat 0)) fun v0 =>
joinC (α := AV × AV × AV × AV × AV × AV × AV × Unit → AH → R) (fun s1 h2 =>
pPick s1.2.1 (.bool true) s1.1 fun v4 =>
pCond v4 (
some (s1.2.2.1, h2)) (
pNil s1.2.2.2.2.2.2.1 fun v5 =>
pFieldA v5 0 fun v6 =>
pLoad1 h2 v6 fun v7 =>
pInt .add s1.2.2.2.2.2.1 (.int .i64 (.ofNat 0)) fun v8 =>
pCall c (.fn 233 [] []) [v7, v8] h2 fun v9 h10 =>
joinC (α := AV × AV × AV × AV × AV × AV × Unit → AH → List Nat → R) (fun s11 h12 d13 =>
joinC (α := AV × AV × AV × AV × AV × AV × Unit → AH → List Nat → R) (fun s15 h16 d17 =>
joinC (α := AV × Unit → AH → List Nat → R) (fun s19 h20 d21 =>
pLeave d21 h20 fun h23 =>
some (s19.1, h23)) fun j22 =>
pInt .lss s15.1 s15.2.2.1 fun v24 =>
pCond v24 (
pCall c (.fn 290 [] []) [s15.2.2.2.2.2.1, s15.2.2.2.2.1, (.int .i64 (.ofNat 1))] h16 fun v25 h26 =>
pCall c (.fn 255 [] []) [s15.2.2.2.2.2.1, v25, s15.2.2.2.1, s15.2.2.1, s15.2.1] h26 fun v27 h28 =>
j22 (v27, ()) h28 d17) (
j22 (s15.2.1, ()) h16 d17)) fun j18 =>
pInt .leq s11.2.2.2.1 s11.1 fun v29 =>
joinC (α := AV × AV × AV × AV × AV × AV × AV × AV × Unit → AH → R) (fun s30 h31 =>
pPick s30.2.1 s30.1 (.bool false) fun v33 =>
pCond v33 (
pNil s30.2.2.2.2.2.2.2.1 fun v34 =>
pFieldA v34 0 fun v35 =>
pLoad1 h31 v35 fun v36 =>
pInt .add s30.2.2.2.2.2.2.1 (.int .i64 (.ofNat 1)) fun v37 =>
pCall c (.fn 233 [] []) [v36, v37] h31 fun v38 h39 =>
pBuild [(.int .u64 (.ofNat 0)), (.int .u64 (.ofNat 0))] [(0, 1, s30.2.2.1), (1, 1, v38)] fun v40 =>
pBuildS h39 338 [(.int .u64 (.ofNat 0)), (.int .u64 (.ofNat 0))] 1 [(0, 2, v40)] fun v41 h42 =>
pAppend h42 338 2 s30.2.2.2.1 v41 fun v43 h44 =>
j18 (s30.2.2.1, v43, s30.2.2.2.2.1, s30.2.2.2.2.2.1, s30.2.2.2.2.2.2.1, s30.2.2.2.2.2.2.2.1, ()) h44 d13) (
j18 (s30.2.2.1, s30.2.2.2.1, s30.2.2.2.2.1, s30.2.2.2.2.2.1, s30.2.2.2.2.2.2.1, s30.2.2.2.2.2.2.2.1, ()) h31 d13)) fun j32 =>
pWant v29 true (
pInt .leq s11.1 s11.2.2.1 fun v45 =>
j32 (v45, v29, s11.1, s11.2.1, s11.2.2.1, s11.2.2.2.1, s11.2.2.2.2.1, s11.2.2.2.2.2.1, ()) h12) (
j32 (.undef, v29, s11.1, s11.2.1, s11.2.2.1, s11.2.2.2.1, s11.2.2.2.2.1, s11.2.2.2.2.2.1, ()) h12)) fun j14 =>
pInt .lss s1.2.2.2.2.1 v9 fun v46 =>
pCond v46 (
pCall c (.fn 290 [] []) [s1.2.2.2.2.2.2.1, s1.2.2.2.2.2.1, (.int .i64 (.ofNat 0))] h10 fun v47 h48 =>
pCall c (.fn 255 [] []) [s1.2.2.2.2.2.2.1, v47, s1.2.2.2.2.1, s1.2.2.2.1, s1.2.2.1] h48 fun v49 h50 =>
j14 (v9, v49, s1.2.2.2.1, s1.2.2.2.2.1, s1.2.2.2.2.2.1, s1.2.2.2.2.2.2.1, ()) h50 []) (
j14 (v9, s1.2.2.1, s1.2.2.2.1, s1.2.2.2.2.1, s1.2.2.2.2.2.1, s1.2.2.2.2.2.2.1, ()) h10 []))) fun j3 =>
pWant v0 false (
pNil a0 fun v51 =>
pFieldA v51 0 fun v52 =>
pLoad1 h v52 fun v53 =>
pCall c (.fn 282 [] []) [v53] h fun v54 h55 =>
pUn .not v54 fun v56 =>
j3 (v56, v0, a4, a3, a2, a1, a0, ()) h55) (
j3 (.undef, v0, a4, a3, a2, a1, a0, ()) h)
theorem S255_eq (c : CV) (a0 a1 a2 a3 a4 : AV) (h : AH) : enterK Tryz.prog NN P255 c 255 [a0, a1, a2, a3, a4] h = S255 c a0 a1 a2 a3 a4 h := by kernel_rfl
def W255 (c : CV) (l : List AV) (h : AH) : R := match l with | [a0, a1, a2, a3, a4] => S255 c a0 a1 a2 a3 a4 h | _ => none
theorem W255_ok : WOk Tryz.prog 255 W255 := by
  intro c l h r e
  unfold W255 at e
  split at e
  · exact ⟨P255, by rw [S255_eq]; exact e⟩
  · cases e
/- (*quietus/tree.tree).top -/
def P256 : Pl := .z
def S256 (c : CV) (a0 : AV) (h : AH) : R :=
pNil a0 fun v0 =>
pFieldA v0 0 fun v1 =>
pLoad1 h v1 fun v2 =>
pNil a0 fun v3 =>
pFieldA v3 1 fun v4 =>
pLoad1 h v4 fun v5 =>
pCall c (.fn 283 [] []) [v2, v5] h fun v6 h7 =>
some (v6, h7)
theorem S256_eq (c : CV) (a0 : AV) (h : AH) : enterK Tryz.prog NN P256 c 256 [a0] h = S256 c a0 h := by kernel_rfl
def W256 (c : CV) (l : List AV) (h : AH) : R := match l with | [a0] => S256 c a0 h | _ => none
theorem W256_ok : WOk Tryz.prog 256 W256 := by
  intro c l h r e
  unfold W256 at e
  split at e
  · exact ⟨P256, by rw [S256_eq]; exact e⟩
  · cases e
/- quietus/arena.Class -/
def P257 : Pl := (.n none .z (.n none .z (.n none (.n none .z (.n none (.n (some [3, 0]) .z .z) .z)) .z)))
def S257 (c : CV) (a0 : AV) (h : AH) : R :=
pInt .lss a0 (.int .i64 (.ofNat 1)) fun v0 =>
pCond v0 (
some ((.int .i64 (.ofNat 0)), h)) (
loopC (σ := AV × AV × Unit) NN (fun i4 s1 h2 d3 =>
pInt .leq s1.1 (.int .i64 (.ofNat 4)) fun v5 =>
pCond v5 (
pCall c (.fn 297 [] []) [s1.1] h2 fun v6 h7 =>
pInt .geq v6 s1.2.1 fun v8 =>
pCond v8 (
pLeave d3 h7 fun h9 =>
some (s1.1, h9)) (
pInt .add s1.1 (.int .i64 (.ofNat 1)) fun v10 =>
i4 (v10, s1.2.1, ()) h7 d3)) (
pLeave d3 h2 fun h11 =>
some ((.int .i64 (.ofNat 0)), h11))) ((.int .i64 (.ofNat 1)), a0, ()) h [])
theorem S257_eq (c : CV) (a0 : AV) (h : AH) : enterK Tryz.prog NN P257 c 257 [a0] h = S257 c a0 h := by kernel_rfl
def W257 (c : CV) (l : List AV) (h : AH) : R := match l with | [a0] => S257 c a0 h | _ => none
theorem W257_ok : WOk Tryz.prog 257 W257 := by
  intro c l h r e
  unfold W257 at e
  split at e
  · exact ⟨P257, by rw [S257_eq]; exact e⟩
  · cases e
end
end Go.Proofs.YtlkmghghgmagaaaGreatDoor
