/- Printed by a program of mine: the bodies of the program's functions aa terms of the primitives of the abstract executor, each shown equal by the kernel. -/
import Derived.Test.YtcmjgcfkhommkaaGreatDoorProg
import Derived.Test.YtcmjgcfkhommkaaGreatDoorJudgePartsAe1
import Derived.KernelRfl
namespace Go.Proofs.YtcmjgcfkhommkaaGreatDoor
open Go Go.Ae
set_option maxRecDepth 100000
noncomputable section
/- (*quietus/interp.Interp).truth$1 -/
def P138 : Pl := (.n none .z (.n none .z (.n none .z (.n none (.r [[]]) .z))))
def S138 (c : CV) (a0 a1 a2 a3 : AV) (h : AH) : R :=
pInt .neq a1 (.int .i64 (.ofNat 0)) fun v0 =>
pCond v0 (
some (a1, h)) (
pLoad1 h a2 fun v1 =>
pNil v1 fun v2 =>
pFieldA v2 14 fun v3 =>
pLoad1 h v3 fun v4 =>
pCall c (.fn 139 [] []) [v4, a0] h fun v5 h6 =>
pUn .not v5 fun v7 =>
pCond v7 (
some ((.int .i64 (.ofNat 5)), h6)) (
joinC (α := Unit → AH → R) (fun _ h9 =>
some ((.int .i64 (.ofNat 0)), h9)) fun j10 =>
pLoad1 h6 a2 fun v11 =>
pFieldA a3 3 fun v12 =>
pLoad1 h6 v12 fun v13 =>
pCall c (.fn 83 [] []) [a0] h6 fun v14 h15 =>
pNil v11 fun v16 =>
pFieldA v16 6 fun v17 =>
pIdxP v17 v13 8 1 fun v18 =>
pStore h15 v18 v14 1 fun h19 =>
pChk v12 none v13 h6 h15 h6.nx <|
pChk a2 none v11 h6 h15 h6.nx <|
j10 (()) h19))
theorem S138_eq (c : CV) (a0 a1 a2 a3 : AV) (h : AH) : enterK Tryz.prog NN P138 c 138 [a0, a1, a2, a3] h = S138 c a0 a1 a2 a3 h := by kernel_rfl
def W138 (c : CV) (l : List AV) (h : AH) : R := match l with | [a0, a1, a2, a3] => S138 c a0 a1 a2 a3 h | _ => none
theorem W138_ok : WOk Tryz.prog 138 W138 := by
  intro c l h r e
  unfold W138 at e
  split at e
  · exact ⟨P138, by rw [S138_eq]; exact e⟩
  · cases e
/- (*quietus/slate.Slate).AddTruth -/
def P139 : Pl := .z
def S139 (c : CV) (a0 a1 : AV) (h : AH) : R :=
pCall c (.fn 105 [] []) [a0, (.iface 4 a1)] h fun v0 h1 =>
some (v0, h1)
theorem S139_eq (c : CV) (a0 a1 : AV) (h : AH) : enterK Tryz.prog NN P139 c 139 [a0, a1] h = S139 c a0 a1 h := by kernel_rfl
def W139 (c : CV) (l : List AV) (h : AH) : R := match l with | [a0, a1] => S139 c a0 a1 h | _ => none
theorem W139_ok : WOk Tryz.prog 139 W139 := by
  intro c l h r e
  unfold W139 at e
  split at e
  · exact ⟨P139, by rw [S139_eq]; exact e⟩
  · cases e
/- quietus/draft.Do -/
def P140 : Pl := (.n none .z (.n none (.n none (.r [[17, 15, 2, 0]]) .z) (.n none .z (.n none .z (.n none .z (.n none .z (.n none .z (.n none (.n none .z (.n none (.n (some [67, 66, 65, 0]) .z .z) .z)) .z))))))))
def S140 (c : CV) (a0 a1 a2 : AV) (h : AH) : R :=
pInt .lss a1 (.int .i64 (.ofNat 6)) fun v0 =>
joinC (α := AV × AV × AV × AV × Unit → AH → R) (fun s1 h2 =>
pPick s1.2.1 (.bool true) s1.1 fun v4 =>
pCond v4 (
some ((.int .i64 (.ofNat 2)), h2)) (
pCall c (.fn 193 [] []) [s1.2.2.2.1] h2 fun v5 h6 =>
pBuild [.nilp, (.int .i64 (.ofNat 0)), (.int .i64 (.ofNat 0))] [(0, 1, v5)] fun v7 =>
pBox h6 245 v7 fun v8 h9 =>
pCall c s1.2.2.1 [v8] h9 fun _ h11 =>
pNil v8 fun v12 =>
pFieldA v12 1 fun v13 =>
pLoad1 h11 v13 fun v14 =>
pInt .eql v14 (.int .i64 (.ofNat 11)) fun v15 =>
pCond v15 (
pNil v8 fun v16 =>
pFieldA v16 0 fun v17 =>
pLoad1 h11 v17 fun v18 =>
pCall c (.fn 194 [] []) [v18] h11 fun v19 h20 =>
pCall c (.fn 56 [] []) [s1.2.2.2.1, v19] h20 fun v21 h22 =>
pExtract v21 0 fun _ =>
pExtract v21 1 fun v24 =>
some (v24, h22)) (
pNil v8 fun v25 =>
pFieldA v25 1 fun v26 =>
pLoad1 h11 v26 fun v27 =>
pInt .neq v27 (.int .i64 (.ofNat 0)) fun v28 =>
pCond v28 (
pNil v8 fun v29 =>
pFieldA v29 1 fun v30 =>
pLoad1 h11 v30 fun v31 =>
some (v31, h11)) (
pNil v8 fun v32 =>
pFieldA v32 0 fun v33 =>
pLoad1 h11 v33 fun v34 =>
pCall c (.fn 42 [] []) [v34] h11 fun v35 h36 =>
pCall c (.fn 57 [] []) [s1.2.2.2.1, v35] h36 fun v37 h38 =>
pInt .neq v37 (.int .i64 (.ofNat 0)) fun v39 =>
pCond v39 (
some (v37, h38)) (
pNil v8 fun v40 =>
pFieldA v40 0 fun v41 =>
pLoad1 h38 v41 fun v42 =>
pCall c (.fn 48 [] []) [v42] h38 fun v43 h44 =>
pLenS v43 fun v45 =>
loopC (σ := AV × AV × AV × AV × Unit) NN (fun i49 s46 h47 d48 =>
pInt .lss s46.1 s46.2.1 fun v50 =>
pCond v50 (
pIdxS s46.2.2.1 s46.1 1 fun v51 =>
pLoad1 h47 v51 fun v52 =>
pCall c (.fn 176 [] []) [s46.2.2.2.1, v52] h47 fun _ h54 =>
pInt .add s46.1 (.int .i64 (.ofNat 1)) fun v55 =>
i49 (v55, s46.2.1, s46.2.2.1, s46.2.2.2.1, ()) h54 d48) (
pLeave d48 h47 fun h56 =>
some ((.int .i64 (.ofNat 0)), h56))) ((.int .i64 (.ofNat 0)), v45, v43, s1.2.2.2.1, ()) h44 []))))) fun j3 =>
pWant v0 false (
pInt .geq a1 (.int .i64 (.ofNat 14)) fun v57 =>
j3 (v57, v0, a2, a0, ()) h) (
j3 (.undef, v0, a2, a0, ()) h)
theorem S140_eq (c : CV) (a0 a1 a2 : AV) (h : AH) : enterK Tryz.prog NN P140 c 140 [a0, a1, a2] h = S140 c a0 a1 a2 h := by kernel_rfl
def W140 (c : CV) (l : List AV) (h : AH) : R := match l with | [a0, a1, a2] => S140 c a0 a1 a2 h | _ => none
theorem W140_ok : WOk Tryz.prog 140 W140 := by
  intro c l h r e
  unfold W140 at e
  split at e
  · exact ⟨P140, by rw [S140_eq]; exact e⟩
  · cases e
/- quietus/list.Add$1 -/
def P141 : Pl := (.n none .z (.n none (.n none (.r [[22, 18, 6, 5, 3, 2, 0]]) .z) .z))
def S141 (c : CV) (a0 a1 a2 a3 : AV) (h : AH) : R :=
pLoad1 h a1 fun v0 =>
pLoad1 h a2 fun v1 =>
pCall c (.fn 142 [] []) [a0, v0, v1] h fun v2 h3 =>
pExtract v2 0 fun v4 =>
pExtract v2 1 fun v5 =>
pCall c (.fn 143 [] []) [a0] h3 fun v6 h7 =>
pUn .not v6 fun v8 =>
joinC (α := AV × AV × AV × AV × AV × AV × AV × Unit → AH → R) (fun s9 h10 =>
pPick s9.2.1 (.bool true) s9.1 fun v12 =>
pCond v12 (
some ((.tup []), h10)) (
pCall c (.fn 145 [] []) [s9.2.2.2.2.2.2.1, (.int .i64 (.ofNat 2))] h10 fun v13 h14 =>
pInt .add v13 (.int .i64 (.ofNat 0)) fun v15 =>
pLoad1 h14 s9.2.2.2.2.2.1 fun v16 =>
pCall c (.fn 146 [] []) [s9.2.2.2.2.2.2.1, v15, v16] h14 fun _ h18 =>
pInt .add v13 (.int .i64 (.ofNat 1)) fun v19 =>
pCall c (.fn 147 [] []) [s9.2.2.2.2.2.2.1, v19, s9.2.2.1] h18 fun _ h21 =>
pCall c (.fn 147 [] []) [s9.2.2.2.2.2.2.1, s9.2.2.2.1, v13] h21 fun _ h23 =>
pStore h23 s9.2.2.2.2.1 (.bool true) 1 fun h24 =>
some ((.tup []), h24))) fun j11 =>
pWant v8 false (
pLoad1 h7 a2 fun v25 =>
pCall c (.fn 144 [] []) [a0, v5, v25] h7 fun v26 h27 =>
j11 (v26, v8, v5, v4, a3, a2, a0, ()) h27) (
j11 (.undef, v8, v5, v4, a3, a2, a0, ()) h7)
theorem S141_eq (c : CV) (a0 a1 a2 a3 : AV) (h : AH) : enterK Tryz.prog NN P141 c 141 [a0, a1, a2, a3] h = S141 c a0 a1 a2 a3 h := by kernel_rfl
def W141 (c : CV) (l : List AV) (h : AH) : R := match l with | [a0, a1, a2, a3] => S141 c a0 a1 a2 a3 h | _ => none
theorem W141_ok : WOk Tryz.prog 141 W141 := by
  intro c l h r e
  unfold W141 at e
  split at e
  · exact ⟨P141, by rw [S141_eq]; exact e⟩
  · cases e
/- quietus/list.seek -/
def P142 : Pl := (.n none .z (.n none .z (.n none (.n (some [7, 6]) (.n (some [7, 6, 2, 0]) (.n none .z (.n none (.n none .z (.n none (.n none (.r [[22, 16, 7, 6, 2, 0]]) .z) .z)) .z)) .z) .z) .z)))
def S142 (c : CV) (a0 a1 a2 : AV) (h : AH) : R :=
joinC (α := AV × AV × Unit → AH → List Nat → R) (fun s0 h1 d2 =>
pLeave d2 h1 fun h4 =>
some ((.tup [s0.2.1, s0.1]), h4)) fun j3 =>
loopC (σ := AV × AV × AV × AV × Unit) NN (fun i8 s5 h6 d7 =>
pCall c (.fn 195 [] []) [s5.2.2.2.1] h6 fun v9 h10 =>
pCond v9 (
pCall c (.fn 196 [] []) [s5.2.2.2.1, s5.2.1] h10 fun v11 h12 =>
pInt .eql v11 (.int .i64 (.ofNat 0)) fun v13 =>
joinC (α := AV × AV × AV × AV × AV × AV × Unit → AH → R) (fun s14 h15 =>
pPick s14.2.1 (.bool true) s14.1 fun v17 =>
pCond v17 (
j3 (s14.2.2.1, s14.2.2.2.1, ()) h15 d7) (
pInt .add s14.2.2.1 (.int .i64 (.ofNat 1)) fun v18 =>
i8 (s14.2.2.1, v18, s14.2.2.2.2.1, s14.2.2.2.2.2.1, ()) h15 d7)) fun j16 =>
pWant v13 false (
pInt .add v11 (.int .i64 (.ofNat 0)) fun v19 =>
pCall c (.fn 149 [] []) [s5.2.2.2.1, v19] h12 fun v20 h21 =>
pInt .geq v20 s5.2.2.1 fun v22 =>
j16 (v22, v13, v11, s5.2.1, s5.2.2.1, s5.2.2.2.1, ()) h21) (
j16 (.undef, v13, v11, s5.2.1, s5.2.2.1, s5.2.2.2.1, ()) h12)) (
j3 (s5.1, s5.2.1, ()) h10 d7)) ((.int .i64 (.ofNat 0)), a1, a2, a0, ()) h []
theorem S142_eq (c : CV) (a0 a1 a2 : AV) (h : AH) : enterK Tryz.prog NN P142 c 142 [a0, a1, a2] h = S142 c a0 a1 a2 h := by kernel_rfl
def W142 (c : CV) (l : List AV) (h : AH) : R := match l with | [a0, a1, a2] => S142 c a0 a1 a2 h | _ => none
theorem W142_ok : WOk Tryz.prog 142 W142 := by
  intro c l h r e
  unfold W142 at e
  split at e
  · exact ⟨P142, by rw [S142_eq]; exact e⟩
  · cases e
/- (*quietus/draft.Draft).OK -/
def P143 : Pl := .z
def S143 (_ : CV) (a0 : AV) (h : AH) : R :=
pNil a0 fun v0 =>
pFieldA v0 1 fun v1 =>
pLoad1 h v1 fun v2 =>
pInt .eql v2 (.int .i64 (.ofNat 0)) fun v3 =>
some (v3, h)
theorem S143_eq (c : CV) (a0 : AV) (h : AH) : enterK Tryz.prog NN P143 c 143 [a0] h = S143 c a0 h := by kernel_rfl
def W143 (c : CV) (l : List AV) (h : AH) : R := match l with | [a0] => S143 c a0 h | _ => none
theorem W143_ok : WOk Tryz.prog 143 W143 := by
  intro c l h r e
  unfold W143 at e
  split at e
  · exact ⟨P143, by rw [S143_eq]; exact e⟩
  · cases e
/- quietus/list.found -/
def P144 : Pl := (.n none .z (.n none (.r [[11, 9, 2, 1, 0], [19, 13]]) .z))
def S144 (c : CV) (a0 a1 a2 : AV) (h : AH) : R :=
pCall c (.fn 143 [] []) [a0] h fun v0 h1 =>
joinC (α := AV × AV × AV × AV × AV × Unit → AH → R) (fun s2 h3 =>
pPick s2.2.1 s2.1 (.bool false) fun v5 =>
joinC (α := AV × AV × Unit → AH → R) (fun s6 h7 =>
pPick s6.2.1 s6.1 (.bool false) fun v9 =>
some (v9, h7)) fun j8 =>
pWant v5 true (
pInt .add s2.2.2.2.1 (.int .i64 (.ofNat 0)) fun v10 =>
pCall c (.fn 149 [] []) [s2.2.2.2.2.1, v10] h3 fun v11 h12 =>
pInt .eql v11 s2.2.2.1 fun v13 =>
j8 (v13, v5, ()) h12) (
j8 (.undef, v5, ()) h3)) fun j4 =>
pWant v0 true (
pInt .neq a1 (.int .i64 (.ofNat 0)) fun v14 =>
j4 (v14, v0, a2, a1, a0, ()) h1) (
j4 (.undef, v0, a2, a1, a0, ()) h1)
theorem S144_eq (c : CV) (a0 a1 a2 : AV) (h : AH) : enterK Tryz.prog NN P144 c 144 [a0, a1, a2] h = S144 c a0 a1 a2 h := by kernel_rfl
def W144 (c : CV) (l : List AV) (h : AH) : R := match l with | [a0, a1, a2] => S144 c a0 a1 a2 h | _ => none
theorem W144_ok : WOk Tryz.prog 144 W144 := by
  intro c l h r e
  unfold W144 at e
  split at e
  · exact ⟨P144, by rw [S144_eq]; exact e⟩
  · cases e
/- (*quietus/draft.Draft).Alloc -/
def P145 : Pl := .z
def S145 (c : CV) (a0 a1 : AV) (h : AH) : R :=
pCall c (.fn 143 [] []) [a0] h fun v0 h1 =>
pUn .not v0 fun v2 =>
pCond v2 (
some ((.int .i64 (.ofNat 0)), h1)) (
pNil a0 fun v3 =>
pFieldA v3 0 fun v4 =>
pLoad1 h1 v4 fun v5 =>
pCall c (.fn 122 [] []) [v5, a1] h1 fun v6 h7 =>
pExtract v6 0 fun v8 =>
pExtract v6 1 fun v9 =>
pCall c (.fn 197 [] []) [a0, v9] h7 fun _ h11 =>
some (v8, h11))
theorem S145_eq (c : CV) (a0 a1 : AV) (h : AH) : enterK Tryz.prog NN P145 c 145 [a0, a1] h = S145 c a0 a1 h := by kernel_rfl
def W145 (c : CV) (l : List AV) (h : AH) : R := match l with | [a0, a1] => S145 c a0 a1 h | _ => none
theorem W145_ok : WOk Tryz.prog 145 W145 := by
  intro c l h r e
  unfold W145 at e
  split at e
  · exact ⟨P145, by rw [S145_eq]; exact e⟩
  · cases e
/- (*quietus/draft.Draft).Write -/
def P146 : Pl := .z
def S146 (c : CV) (a0 a1 a2 : AV) (h : AH) : R :=
pCall c (.fn 143 [] []) [a0] h fun v0 h1 =>
pCond v0 (
pNil a0 fun v2 =>
pFieldA v2 0 fun v3 =>
pLoad1 h1 v3 fun v4 =>
pCall c (.fn 121 [] []) [v4, a1, a2] h1 fun v5 h6 =>
pCall c (.fn 197 [] []) [a0, v5] h6 fun _ h8 =>
some ((.tup []), h8)) (
some ((.tup []), h1))
theorem S146_eq (c : CV) (a0 a1 a2 : AV) (h : AH) : enterK Tryz.prog NN P146 c 146 [a0, a1, a2] h = S146 c a0 a1 a2 h := by kernel_rfl
def W146 (c : CV) (l : List AV) (h : AH) : R := match l with | [a0, a1, a2] => S146 c a0 a1 a2 h | _ => none
theorem W146_ok : WOk Tryz.prog 146 W146 := by
  intro c l h r e
  unfold W146 at e
  split at e
  · exact ⟨P146, by rw [S146_eq]; exact e⟩
  · cases e
/- (*quietus/draft.Draft).Point -/
def P147 : Pl := .z
def S147 (c : CV) (a0 a1 a2 : AV) (h : AH) : R :=
pConvI .u64 a2 fun v0 =>
pCall c (.fn 146 [] []) [a0, a1, v0] h fun _ h2 =>
some ((.tup []), h2)
theorem S147_eq (c : CV) (a0 a1 a2 : AV) (h : AH) : enterK Tryz.prog NN P147 c 147 [a0, a1, a2] h = S147 c a0 a1 a2 h := by kernel_rfl
def W147 (c : CV) (l : List AV) (h : AH) : R := match l with | [a0, a1, a2] => S147 c a0 a1 a2 h | _ => none
theorem W147_ok : WOk Tryz.prog 147 W147 := by
  intro c l h r e
  unfold W147 at e
  split at e
  · exact ⟨P147, by rw [S147_eq]; exact e⟩
  · cases e
/- quietus/list.Cut$1 -/
def P148 : Pl := .z
def S148 (c : CV) (a0 a1 a2 a3 : AV) (h : AH) : R :=
pLoad1 h a1 fun v0 =>
pLoad1 h a2 fun v1 =>
pCall c (.fn 142 [] []) [a0, v0, v1] h fun v2 h3 =>
pExtract v2 0 fun v4 =>
pExtract v2 1 fun v5 =>
pLoad1 h3 a2 fun v6 =>
pCall c (.fn 144 [] []) [a0, v5, v6] h3 fun v7 h8 =>
pCond v7 (
pInt .add v5 (.int .i64 (.ofNat 1)) fun v9 =>
pCall c (.fn 149 [] []) [a0, v9] h8 fun v10 h11 =>
pCall c (.fn 146 [] []) [a0, v4, v10] h11 fun _ h13 =>
pCall c (.fn 150 [] []) [a0, v5] h13 fun _ h15 =>
pStore h15 a3 (.bool true) 1 fun h16 =>
some ((.tup []), h16)) (
some ((.tup []), h8))
theorem S148_eq (c : CV) (a0 a1 a2 a3 : AV) (h : AH) : enterK Tryz.prog NN P148 c 148 [a0, a1, a2, a3] h = S148 c a0 a1 a2 a3 h := by kernel_rfl
def W148 (c : CV) (l : List AV) (h : AH) : R := match l with | [a0, a1, a2, a3] => S148 c a0 a1 a2 a3 h | _ => none
theorem W148_ok : WOk Tryz.prog 148 W148 := by
  intro c l h r e
  unfold W148 at e
  split at e
  · exact ⟨P148, by rw [S148_eq]; exact e⟩
  · cases e
/- (*quietus/draft.Draft).Read -/
def P149 : Pl := .z
def S149 (c : CV) (a0 a1 : AV) (h : AH) : R :=
pCall c (.fn 143 [] []) [a0] h fun v0 h1 =>
pUn .not v0 fun v2 =>
pCond v2 (
some ((.int .u64 (.ofNat 0)), h1)) (
pNil a0 fun v3 =>
pFieldA v3 0 fun v4 =>
pLoad1 h1 v4 fun v5 =>
pCall c (.fn 56 [] []) [v5, a1] h1 fun v6 h7 =>
pExtract v6 0 fun v8 =>
pExtract v6 1 fun v9 =>
pCall c (.fn 197 [] []) [a0, v9] h7 fun _ h11 =>
some (v8, h11))
theorem S149_eq (c : CV) (a0 a1 : AV) (h : AH) : enterK Tryz.prog NN P149 c 149 [a0, a1] h = S149 c a0 a1 h := by kernel_rfl
def W149 (c : CV) (l : List AV) (h : AH) : R := match l with | [a0, a1] => S149 c a0 a1 h | _ => none
theorem W149_ok : WOk Tryz.prog 149 W149 := by
  intro c l h r e
  unfold W149 at e
  split at e
  · exact ⟨P149, by rw [S149_eq]; exact e⟩
  · cases e
/- (*quietus/draft.Draft).Free -/
def P150 : Pl := .z
def S150 (c : CV) (a0 a1 : AV) (h : AH) : R :=
pCall c (.fn 143 [] []) [a0] h fun v0 h1 =>
pCond v0 (
pNil a0 fun v2 =>
pFieldA v2 0 fun v3 =>
pLoad1 h1 v3 fun v4 =>
pCall c (.fn 123 [] []) [v4, a1] h1 fun v5 h6 =>
pCall c (.fn 197 [] []) [a0, v5] h6 fun _ h8 =>
some ((.tup []), h8)) (
some ((.tup []), h1))
theorem S150_eq (c : CV) (a0 a1 : AV) (h : AH) : enterK Tryz.prog NN P150 c 150 [a0, a1] h = S150 c a0 a1 h := by kernel_rfl
def W150 (c : CV) (l : List AV) (h : AH) : R := match l with | [a0, a1] => S150 c a0 a1 h | _ => none
theorem W150_ok : WOk Tryz.prog 150 W150 := by
  intro c l h r e
  unfold W150 at e
  split at e
  · exact ⟨P150, by rw [S150_eq]; exact e⟩
  · cases e
/- quietus/list.Has$1 -/
def P151 : Pl := .z
def S151 (c : CV) (a0 a1 a2 a3 : AV) (h : AH) : R :=
pLoad1 h a1 fun v0 =>
pLoad1 h a2 fun v1 =>
pCall c (.fn 142 [] []) [a0, v0, v1] h fun v2 h3 =>
pExtract v2 0 fun _ =>
pExtract v2 1 fun v5 =>
pLoad1 h3 a2 fun v6 =>
pCall c (.fn 144 [] []) [a0, v5, v6] h3 fun v7 h8 =>
pStore h8 a3 v7 1 fun h9 =>
some ((.tup []), h9)
theorem S151_eq (c : CV) (a0 a1 a2 a3 : AV) (h : AH) : enterK Tryz.prog NN P151 c 151 [a0, a1, a2, a3] h = S151 c a0 a1 a2 a3 h := by kernel_rfl
def W151 (c : CV) (l : List AV) (h : AH) : R := match l with | [a0, a1, a2, a3] => S151 c a0 a1 a2 a3 h | _ => none
theorem W151_ok : WOk Tryz.prog 151 W151 := by
  intro c l h r e
  unfold W151 at e
  split at e
  · exact ⟨P151, by rw [S151_eq]; exact e⟩
  · cases e
/- quietus/table.Put$1 -/
def P152 : Pl := (.n none .z (.n (some [6, 4, 3, 2, 0]) (.n none (.r [[20, 15, 6, 4, 3, 2, 1, 0]]) .z) (.n none .z (.n none .z (.n none .z (.n (some [7, 6, 4, 3, 2, 0]) (.n none (.r [[53, 43, 7, 6, 4, 3, 2, 0], [60, 55, 7, 6, 4, 3, 2, 0]]) .z) .z))))))
def S152 (c : CV) (a0 a1 a2 a3 a4 : AV) (h : AH) : R :=
pLoad1 h a1 fun v0 =>
pCall c (.fn 153 [] []) [a0, v0] h fun v1 h2 =>
joinC (α := AV × AV × AV × AV × AV × Unit → AH → List Nat → R) (fun s3 h4 d5 =>
pCall c (.fn 143 [] []) [s3.2.2.2.2.1] h4 fun v7 h8 =>
pUn .not v7 fun v9 =>
pCond v9 (
pLeave d5 h8 fun h10 =>
some ((.tup []), h10)) (
pLoad1 h8 s3.2.2.2.1 fun v11 =>
pCall c (.fn 155 [] []) [s3.1, v11] h8 fun v12 h13 =>
pExtract v12 0 fun v14 =>
pExtract v12 1 fun v15 =>
pInt .neq v15 (.int .i64 (.ofNat 0)) fun v16 =>
pCond v16 (
pInt .add v15 (.int .i64 (.ofNat 1)) fun v17 =>
pLoad1 h13 s3.2.2.1 fun v18 =>
pCall c (.fn 146 [] []) [s3.2.2.2.2.1, v17, v18] h13 fun _ h20 =>
pLeave d5 h20 fun h21 =>
some ((.tup []), h21)) (
joinC (α := AV × AV × AV × AV × AV × AV × Unit → AH → List Nat → R) (fun s22 h23 d24 =>
pCall c (.fn 145 [] []) [s22.2.2.2.2.2.1, (.int .i64 (.ofNat 3))] h23 fun v26 h27 =>
pInt .add v26 (.int .i64 (.ofNat 0)) fun v28 =>
pLoad1 h27 s22.2.2.2.2.1 fun v29 =>
pCall c (.fn 146 [] []) [s22.2.2.2.2.2.1, v28, v29] h27 fun _ h31 =>
pInt .add v26 (.int .i64 (.ofNat 1)) fun v32 =>
pLoad1 h31 s22.2.2.2.1 fun v33 =>
pCall c (.fn 146 [] []) [s22.2.2.2.2.2.1, v32, v33] h31 fun _ h35 =>
pInt .add v26 (.int .i64 (.ofNat 2)) fun v36 =>
pCall c (.fn 147 [] []) [s22.2.2.2.2.2.1, v36, (.int .i64 (.ofNat 0))] h35 fun _ h38 =>
pCall c (.fn 147 [] []) [s22.2.2.2.2.2.1, s22.1, v26] h38 fun _ h40 =>
pNil s22.2.1 fun v41 =>
pFieldA v41 1 fun v42 =>
pLoad1 h40 v42 fun v43 =>
pInt .add v43 (.int .i64 (.ofNat 0)) fun v44 =>
pNil s22.2.1 fun v45 =>
pFieldA v45 4 fun v46 =>
pLoad1 h40 v46 fun v47 =>
pInt .add v47 (.int .u64 (.ofNat 1)) fun v48 =>
pCall c (.fn 146 [] []) [s22.2.2.2.2.2.1, v44, v48] h40 fun _ h50 =>
pStore h50 s22.2.2.1 (.bool true) 1 fun h51 =>
pLeave d24 h51 fun h52 =>
some ((.tup []), h52)) fun j25 =>
pCall c (.fn 143 [] []) [s3.2.2.2.2.1] h13 fun v53 h54 =>
joinC (α := AV × AV × AV × AV × AV × AV × AV × AV × Unit → AH → R) (fun s55 h56 =>
pPick s55.2.1 s55.1 (.bool false) fun v58 =>
joinC (α := AV × AV × AV × AV × AV × AV × AV × AV × Unit → AH → R) (fun s59 h60 =>
pPick s59.2.1 s59.1 (.bool false) fun v62 =>
pCond v62 (
pCall c (.fn 156 [] []) [s59.2.2.2.1] h60 fun _ h64 =>
pLoad1 h64 s59.2.2.2.2.2.2.1 fun v65 =>
pCall c (.fn 155 [] []) [s59.2.2.2.1, v65] h64 fun v66 h67 =>
pExtract v66 0 fun v68 =>
pExtract v66 1 fun _ =>
j25 (v68, s59.2.2.2.1, s59.2.2.2.2.1, s59.2.2.2.2.2.1, s59.2.2.2.2.2.2.1, s59.2.2.2.2.2.2.2.1, ()) h67 d5) (
j25 (s59.2.2.1, s59.2.2.2.1, s59.2.2.2.2.1, s59.2.2.2.2.2.1, s59.2.2.2.2.2.2.1, s59.2.2.2.2.2.2.2.1, ()) h60 d5)) fun j61 =>
pWant v58 true (
pNil s55.2.2.2.1 fun v70 =>
pFieldA v70 2 fun v71 =>
pLoad1 h56 v71 fun v72 =>
pInt .lss v72 (.int .i64 (.ofNat 16)) fun v73 =>
j61 (v73, v58, s55.2.2.1, s55.2.2.2.1, s55.2.2.2.2.1, s55.2.2.2.2.2.1, s55.2.2.2.2.2.2.1, s55.2.2.2.2.2.2.2.1, ()) h56) (
j61 (.undef, v58, s55.2.2.1, s55.2.2.2.1, s55.2.2.2.2.1, s55.2.2.2.2.2.1, s55.2.2.2.2.2.2.1, s55.2.2.2.2.2.2.2.1, ()) h56)) fun j57 =>
pWant v53 true (
pNil s3.1 fun v74 =>
pFieldA v74 4 fun v75 =>
pLoad1 h54 v75 fun v76 =>
pNil s3.1 fun v77 =>
pFieldA v77 2 fun v78 =>
pLoad1 h54 v78 fun v79 =>
pConvI .u64 v79 fun v80 =>
pInt .geq v76 v80 fun v81 =>
j57 (v81, v53, v14, s3.1, s3.2.1, s3.2.2.1, s3.2.2.2.1, s3.2.2.2.2.1, ()) h54) (
j57 (.undef, v53, v14, s3.1, s3.2.1, s3.2.2.1, s3.2.2.2.1, s3.2.2.2.2.1, ()) h54)))) fun j6 =>
pCall c (.fn 143 [] []) [a0] h2 fun v82 h83 =>
joinC (α := AV × AV × AV × AV × AV × AV × AV × AV × Unit → AH → R) (fun s84 h85 =>
pPick s84.2.1 s84.1 (.bool false) fun v87 =>
pCond v87 (
pLoad1 h85 s84.2.2.2.2.2.2.1 fun v88 =>
pCall c (.fn 154 [] []) [s84.2.2.2.2.2.2.2.1, v88] h85 fun v89 h90 =>
j6 (v89, s84.2.2.2.1, s84.2.2.2.2.1, s84.2.2.2.2.2.1, s84.2.2.2.2.2.2.2.1, ()) h90 []) (
j6 (s84.2.2.1, s84.2.2.2.1, s84.2.2.2.2.1, s84.2.2.2.2.2.1, s84.2.2.2.2.2.2.2.1, ()) h85 [])) fun j86 =>
pWant v82 true (
pNil v1 fun v91 =>
pFieldA v91 1 fun v92 =>
pLoad1 h83 v92 fun v93 =>
pInt .eql v93 (.int .i64 (.ofNat 0)) fun v94 =>
j86 (v94, v82, v1, a4, a3, a2, a1, a0, ()) h83) (
j86 (.undef, v82, v1, a4, a3, a2, a1, a0, ()) h83)
theorem S152_eq (c : CV) (a0 a1 a2 a3 a4 : AV) (h : AH) : enterK Tryz.prog NN P152 c 152 [a0, a1, a2, a3, a4] h = S152 c a0 a1 a2 a3 a4 h := by kernel_rfl
def W152 (c : CV) (l : List AV) (h : AH) : R := match l with | [a0, a1, a2, a3, a4] => S152 c a0 a1 a2 a3 a4 h | _ => none
theorem W152_ok : WOk Tryz.prog 152 W152 := by
  intro c l h r e
  unfold W152 at e
  split at e
  · exact ⟨P152, by rw [S152_eq]; exact e⟩
  · cases e
/- quietus/table.open -/
def P153 : Pl := (.n none .z (.n none .z (.n none .z (.n none .z (.n none .z (.n (some [6, 5, 0]) (.n none (.r [[40, 38, 6, 5, 0], [47, 42, 6, 5, 0]]) .z) .z))))))
def S153 (c : CV) (a0 a1 : AV) (h : AH) : R :=
pCall c (.fn 196 [] []) [a0, a1] h fun v0 h1 =>
pBuild [.nilp, (.int .i64 (.ofNat 0)), (.int .i64 (.ofNat 0)), (.int .i64 (.ofNat 0)), (.int .u64 (.ofNat 0))] [(0, 1, a0), (1, 1, v0)] fun v2 =>
pBox h1 222 v2 fun v3 h4 =>
pNil v3 fun v5 =>
pFieldA v5 1 fun v6 =>
pLoad1 h4 v6 fun v7 =>
pInt .eql v7 (.int .i64 (.ofNat 0)) fun v8 =>
pCond v8 (
some (v3, h4)) (
pNil v3 fun v9 =>
pFieldA v9 1 fun v10 =>
pLoad1 h4 v10 fun v11 =>
pInt .add v11 (.int .i64 (.ofNat 0)) fun v12 =>
pCall c (.fn 149 [] []) [a0, v12] h4 fun v13 h14 =>
pNil v3 fun v15 =>
pFieldA v15 4 fun v16 =>
pStore h14 v16 v13 1 fun h17 =>
pNil v3 fun v18 =>
pFieldA v18 1 fun v19 =>
pLoad1 h17 v19 fun v20 =>
pInt .add v20 (.int .i64 (.ofNat 1)) fun v21 =>
pCall c (.fn 149 [] []) [a0, v21] h17 fun v22 h23 =>
joinC (α := AV × AV × AV × Unit → AH → List Nat → R) (fun s24 h25 d26 =>
pConvI .i64 s24.1 fun v28 =>
pNil s24.2.1 fun v29 =>
pFieldA v29 1 fun v30 =>
pLoad1 h25 v30 fun v31 =>
pInt .add v31 (.int .i64 (.ofNat 2)) fun v32 =>
pCall c (.fn 196 [] []) [s24.2.2.1, v32] h25 fun v33 h34 =>
pNil s24.2.1 fun v35 =>
pFieldA v35 2 fun v36 =>
pStore h34 v36 v28 1 fun h37 =>
pNil s24.2.1 fun v38 =>
pFieldA v38 3 fun v39 =>
pStore h37 v39 v33 1 fun h40 =>
pLeave d26 h40 fun h41 =>
some (s24.2.1, h41)) fun j27 =>
pInt .lss v22 (.int .u64 (.ofNat 2)) fun v42 =>
joinC (α := AV × AV × AV × AV × AV × Unit → AH → R) (fun s43 h44 =>
pPick s43.2.1 (.bool true) s43.1 fun v46 =>
joinC (α := AV × AV × AV × AV × AV × Unit → AH → R) (fun s47 h48 =>
pPick s47.2.1 (.bool true) s47.1 fun v50 =>
pCond v50 (
pCall c (.fn 197 [] []) [s47.2.2.2.2.1, (.int .i64 (.ofNat 2))] h48 fun _ h52 =>
j27 ((.int .u64 (.ofNat 2)), s47.2.2.2.1, s47.2.2.2.2.1, ()) h52 []) (
j27 (s47.2.2.1, s47.2.2.2.1, s47.2.2.2.2.1, ()) h48 [])) fun j49 =>
pWant v46 false (
pInt .sub s43.2.2.1 (.int .u64 (.ofNat 1)) fun v53 =>
pInt .and s43.2.2.1 v53 fun v54 =>
pInt .neq v54 (.int .u64 (.ofNat 0)) fun v55 =>
j49 (v55, v46, s43.2.2.1, s43.2.2.2.1, s43.2.2.2.2.1, ()) h44) (
j49 (.undef, v46, s43.2.2.1, s43.2.2.2.1, s43.2.2.2.2.1, ()) h44)) fun j45 =>
pWant v42 false (
pInt .gtr v22 (.int .u64 (.ofNat 16)) fun v56 =>
j45 (v56, v42, v22, v3, a0, ()) h23) (
j45 (.undef, v42, v22, v3, a0, ()) h23))
theorem S153_eq (c : CV) (a0 a1 : AV) (h : AH) : enterK Tryz.prog NN P153 c 153 [a0, a1] h = S153 c a0 a1 h := by kernel_rfl
def W153 (c : CV) (l : List AV) (h : AH) : R := match l with | [a0, a1] => S153 c a0 a1 h | _ => none
theorem W153_ok : WOk Tryz.prog 153 W153 := by
  intro c l h r e
  unfold W153 at e
  split at e
  · exact ⟨P153, by rw [S153_eq]; exact e⟩
  · cases e
/- quietus/table.made -/
def P154 : Pl := (.n none .z (.n none .z (.n none (.n none .z (.n none (.n (some [14, 5, 1, 0]) .z .z) .z)) .z)))
def S154 (c : CV) (a0 a1 : AV) (h : AH) : R :=
pCall c (.fn 145 [] []) [a0, (.int .i64 (.ofNat 3))] h fun v0 h1 =>
pCall c (.fn 145 [] []) [a0, (.int .i64 (.ofNat 2))] h1 fun v2 h3 =>
pBuild [.nilp, (.int .i64 (.ofNat 0)), (.int .i64 (.ofNat 0)), (.int .i64 (.ofNat 0)), (.int .u64 (.ofNat 0))] [(0, 1, a0), (1, 1, v0), (2, 1, (.int .i64 (.ofNat 2))), (3, 1, v2)] fun v4 =>
pBox h3 222 v4 fun v5 h6 =>
loopC (σ := AV × AV × AV × AV × Unit) NN (fun i10 s7 h8 d9 =>
pInt .lss s7.1 (.int .i64 (.ofNat 2)) fun v11 =>
pCond v11 (
pNil s7.2.1 fun v12 =>
pFieldA v12 3 fun v13 =>
pLoad1 h8 v13 fun v14 =>
pInt .add v14 s7.1 fun v15 =>
pCall c (.fn 147 [] []) [s7.2.2.2.1, v15, (.int .i64 (.ofNat 0))] h8 fun _ h17 =>
pInt .add s7.1 (.int .i64 (.ofNat 1)) fun v18 =>
i10 (v18, s7.2.1, s7.2.2.1, s7.2.2.2.1, ()) h17 d9) (
pNil s7.2.1 fun v19 =>
pFieldA v19 1 fun v20 =>
pLoad1 h8 v20 fun v21 =>
pInt .add v21 (.int .i64 (.ofNat 0)) fun v22 =>
pCall c (.fn 147 [] []) [s7.2.2.2.1, v22, (.int .i64 (.ofNat 0))] h8 fun _ h24 =>
pNil s7.2.1 fun v25 =>
pFieldA v25 1 fun v26 =>
pLoad1 h24 v26 fun v27 =>
pInt .add v27 (.int .i64 (.ofNat 1)) fun v28 =>
pCall c (.fn 147 [] []) [s7.2.2.2.1, v28, (.int .i64 (.ofNat 2))] h24 fun _ h30 =>
pNil s7.2.1 fun v31 =>
pFieldA v31 1 fun v32 =>
pLoad1 h30 v32 fun v33 =>
pInt .add v33 (.int .i64 (.ofNat 2)) fun v34 =>
pNil s7.2.1 fun v35 =>
pFieldA v35 3 fun v36 =>
pLoad1 h30 v36 fun v37 =>
pCall c (.fn 147 [] []) [s7.2.2.2.1, v34, v37] h30 fun _ h39 =>
pNil s7.2.1 fun v40 =>
pFieldA v40 1 fun v41 =>
pLoad1 h39 v41 fun v42 =>
pCall c (.fn 147 [] []) [s7.2.2.2.1, s7.2.2.1, v42] h39 fun _ h44 =>
pLeave d9 h44 fun h45 =>
some (s7.2.1, h45))) ((.int .i64 (.ofNat 0)), v5, a1, a0, ()) h6 []
theorem S154_eq (c : CV) (a0 a1 : AV) (h : AH) : enterK Tryz.prog NN P154 c 154 [a0, a1] h = S154 c a0 a1 h := by kernel_rfl
def W154 (c : CV) (l : List AV) (h : AH) : R := match l with | [a0, a1] => S154 c a0 a1 h | _ => none
theorem W154_ok : WOk Tryz.prog 154 W154 := by
  intro c l h r e
  unfold W154 at e
  split at e
  · exact ⟨P154, by rw [S154_eq]; exact e⟩
  · cases e
/- (*quietus/table.table).seek -/
def P155 : Pl := (.n none .z (.n none (.r [[4, 1, 0]]) (.n none (.n none (.n (some [4, 1, 0]) (.n none .z (.n none (.n none .z (.n none (.n none (.r [[39, 30, 5, 4, 1, 0]]) .z) .z)) .z)) .z) .z) .z)))
def S155 (c : CV) (a0 a1 : AV) (h : AH) : R :=
joinC (α := AV × AV × AV × Unit → AH → R) (fun s0 h1 =>
loopC (σ := AV × AV × AV × Unit) NN (fun i6 s3 h4 d5 =>
pNil s3.2.2.1 fun v7 =>
pFieldA v7 0 fun v8 =>
pLoad1 h4 v8 fun v9 =>
pCall c (.fn 195 [] []) [v9] h4 fun v10 h11 =>
pCond v10 (
pNil s3.2.2.1 fun v12 =>
pFieldA v12 0 fun v13 =>
pLoad1 h11 v13 fun v14 =>
pCall c (.fn 196 [] []) [v14, s3.1] h11 fun v15 h16 =>
pInt .eql v15 (.int .i64 (.ofNat 0)) fun v17 =>
joinC (α := AV × AV × AV × AV × AV × AV × Unit → AH → R) (fun s18 h19 =>
pPick s18.2.1 (.bool true) s18.1 fun v21 =>
pCond v21 (
pLeave d5 h19 fun h22 =>
some ((.tup [s18.2.2.2.1, s18.2.2.1]), h22)) (
pInt .add s18.2.2.1 (.int .i64 (.ofNat 2)) fun v23 =>
i6 (v23, s18.2.2.2.2.1, s18.2.2.2.2.2.1, ()) h19 d5)) fun j20 =>
pWant v17 false (
pNil s3.2.2.1 fun v24 =>
pFieldA v24 0 fun v25 =>
pLoad1 h16 v25 fun v26 =>
pInt .add v15 (.int .i64 (.ofNat 0)) fun v27 =>
pCall c (.fn 149 [] []) [v26, v27] h16 fun v28 h29 =>
pInt .eql v28 s3.2.1 fun v30 =>
j20 (v30, v17, v15, s3.1, s3.2.1, s3.2.2.1, ()) h29) (
j20 (.undef, v17, v15, s3.1, s3.2.1, s3.2.2.1, ()) h16)) (
pLeave d5 h11 fun h31 =>
some ((.tup [s3.1, (.int .i64 (.ofNat 0))]), h31))) (s0.1, s0.2.1, s0.2.2.1, ()) h1 []) fun j2 =>
pNil a0 fun v32 =>
pFieldA v32 3 fun v33 =>
pLoad1 h v33 fun v34 =>
pNil a0 fun v35 =>
pFieldA v35 2 fun v36 =>
pLoad1 h v36 fun v37 =>
pCall c (.fn 198 [] []) [a1, v37] h fun v38 h39 =>
pInt .add v34 v38 fun v40 =>
pChk v33 none v34 h h39 h.nx <|
j2 (v40, a1, a0, ()) h39
theorem S155_eq (c : CV) (a0 a1 : AV) (h : AH) : enterK Tryz.prog NN P155 c 155 [a0, a1] h = S155 c a0 a1 h := by kernel_rfl
def W155 (c : CV) (l : List AV) (h : AH) : R := match l with | [a0, a1] => S155 c a0 a1 h | _ => none
theorem W155_ok : WOk Tryz.prog 155 W155 := by
  intro c l h r e
  unfold W155 at e
  split at e
  · exact ⟨P155, by rw [S155_eq]; exact e⟩
  · cases e
/- (*quietus/table.table).grow -/
def P156 : Pl := (.n none .z (.n none .z (.n none .z (.n none .z (.n none .z (.n none (.n none .z (.n none (.n (some [25, 24, 23, 4, 2, 1]) .z .z) .z)) (.n none .z (.n none (.r [[4, 2, 1]]) .z))))))))
def S156 (c : CV) (a0 : AV) (h : AH) : R :=
pBox h 219 a0 fun v0 h1 =>
pLoad1 h1 v0 fun v2 =>
pNil v2 fun v3 =>
pFieldA v3 2 fun v4 =>
pLoad1 h1 v4 fun v5 =>
pInt .mul (.int .i64 (.ofNat 2)) v5 fun v6 =>
pBox h1 3 (.int .i64 (.ofNat 0)) fun v7 h8 =>
pStore h8 v7 v6 1 fun h9 =>
pLoad1 h9 v7 fun v10 =>
pMake h9 3 [(.int .i64 (.ofNat 0))] v10 v10 fun v11 h12 =>
pBox h12 38 .nils fun v13 h14 =>
pStore h14 v13 v11 1 fun h15 =>
pLoad1 h15 v0 fun v16 =>
pNil v16 fun v17 =>
pFieldA v17 0 fun v18 =>
pLoad1 h15 v18 fun v19 =>
pLoad1 h15 v7 fun v20 =>
pCall c (.fn 145 [] []) [v19, v20] h15 fun v21 h22 =>
pLoad1 h22 v0 fun v23 =>
pCall c (.fn 199 [] []) [v23, (.fn 200 [] [v0, v7, v13])] h22 fun _ h25 =>
pLoad1 h25 v13 fun v26 =>
pLenS v26 fun v27 =>
loopC (σ := AV × AV × AV × AV × AV × AV × Unit) NN (fun i31 s28 h29 d30 =>
pInt .lss s28.1 s28.2.1 fun v32 =>
pCond v32 (
pIdxS s28.2.2.1 s28.1 1 fun v33 =>
pLoad1 h29 v33 fun v34 =>
pLoad1 h29 s28.2.2.2.2.2.1 fun v35 =>
pNil v35 fun v36 =>
pFieldA v36 0 fun v37 =>
pLoad1 h29 v37 fun v38 =>
pInt .add s28.2.2.2.1 s28.1 fun v39 =>
pCall c (.fn 147 [] []) [v38, v39, v34] h29 fun _ h41 =>
pInt .add s28.1 (.int .i64 (.ofNat 1)) fun v42 =>
i31 (v42, s28.2.1, s28.2.2.1, s28.2.2.2.1, s28.2.2.2.2.1, s28.2.2.2.2.2.1, ()) h41 d30) (
pLoad1 h29 s28.2.2.2.2.2.1 fun v43 =>
pNil v43 fun v44 =>
pFieldA v44 0 fun v45 =>
pLoad1 h29 v45 fun v46 =>
pLoad1 h29 s28.2.2.2.2.2.1 fun v47 =>
pNil v47 fun v48 =>
pFieldA v48 3 fun v49 =>
pLoad1 h29 v49 fun v50 =>
pCall c (.fn 150 [] []) [v46, v50] h29 fun _ h52 =>
joinC (α := AV × AV × AV × Unit → AH → R) (fun s53 h54 =>
pLoad1 h54 s53.2.2.1 fun v56 =>
pNil v56 fun v57 =>
pFieldA v57 0 fun v58 =>
pLoad1 h54 v58 fun v59 =>
pLoad1 h54 s53.2.2.1 fun v60 =>
pNil v60 fun v61 =>
pFieldA v61 1 fun v62 =>
pLoad1 h54 v62 fun v63 =>
pInt .add v63 (.int .i64 (.ofNat 1)) fun v64 =>
pLoad1 h54 s53.2.1 fun v65 =>
pCall c (.fn 147 [] []) [v59, v64, v65] h54 fun _ h67 =>
pLoad1 h67 s53.2.2.1 fun v68 =>
pNil v68 fun v69 =>
pFieldA v69 0 fun v70 =>
pLoad1 h67 v70 fun v71 =>
pLoad1 h67 s53.2.2.1 fun v72 =>
pNil v72 fun v73 =>
pFieldA v73 1 fun v74 =>
pLoad1 h67 v74 fun v75 =>
pInt .add v75 (.int .i64 (.ofNat 2)) fun v76 =>
pCall c (.fn 147 [] []) [v71, v76, s53.1] h67 fun _ h78 =>
pLeave d30 h78 fun h79 =>
some ((.tup []), h79)) fun j55 =>
pLoad1 h52 s28.2.2.2.2.2.1 fun v80 =>
pLoad1 h52 s28.2.2.2.2.2.1 fun v81 =>
pLoad1 h52 s28.2.2.2.2.1 fun v82 =>
pNil v80 fun v83 =>
pFieldA v83 2 fun v84 =>
pStore h52 v84 v82 1 fun h85 =>
pNil v81 fun v86 =>
pFieldA v86 3 fun v87 =>
pStore h85 v87 s28.2.2.2.1 1 fun h88 =>
pChk s28.2.2.2.2.2.1 none v81 h52 h85 h52.nx <|
j55 (s28.2.2.2.1, s28.2.2.2.2.1, s28.2.2.2.2.2.1, ()) h88)) ((.int .i64 (.ofNat 0)), v27, v26, v21, v7, v0, ()) h25 []
theorem S156_eq (c : CV) (a0 : AV) (h : AH) : enterK Tryz.prog NN P156 c 156 [a0] h = S156 c a0 h := by kernel_rfl
def W156 (c : CV) (l : List AV) (h : AH) : R := match l with | [a0] => S156 c a0 h | _ => none
theorem W156_ok : WOk Tryz.prog 156 W156 := by
  intro c l h r e
  unfold W156 at e
  split at e
  · exact ⟨P156, by rw [S156_eq]; exact e⟩
  · cases e
/- (*quietus/interp.Interp).number$1 -/
def P157 : Pl := (.n none .z (.n none .z (.n none (.n none (.r [[20, 13, 4, 3, 1, 0], [25, 22, 4, 3, 0], [31, 25, 22, 4, 3, 0], [32, 22, 4, 3, 0]]) .z) .z)))
def S157 (c : CV) (a0 a1 a2 a3 a4 : AV) (h : AH) : R :=
pInt .neq a2 (.int .i64 (.ofNat 0)) fun v0 =>
pCond v0 (
some (a2, h)) (
joinC (α := AV × AV × AV × AV × AV × AV × Unit → AH → R) (fun s1 h2 =>
pPick s1.2.1 s1.1 (.bool false) fun v4 =>
joinC (α := AV × AV × AV × AV × AV × Unit → AH → R) (fun s5 h6 =>
joinC (α := AV × AV × AV × AV × AV × AV × Unit → AH → R) (fun s8 h9 =>
joinC (α := AV × AV × AV × AV × AV × Unit → AH → R) (fun s11 h12 =>
pPick s11.2.1 (.bool true) s11.1 fun v14 =>
pCond v14 (
some ((.int .i64 (.ofNat 5)), h12)) (
pLoad1 h12 s11.2.2.2.1 fun v15 =>
pFieldA s11.2.2.1 3 fun v16 =>
pLoad1 h12 v16 fun v17 =>
pNil v15 fun v18 =>
pFieldA v18 6 fun v19 =>
pIdxP v19 v17 8 1 fun v20 =>
pStore h12 v20 s11.2.2.2.2.1 1 fun h21 =>
some ((.int .i64 (.ofNat 0)), h21))) fun j13 =>
pWant s8.2.2.1 false (
pPick s8.2.1 s8.1 (.bool false) fun v22 =>
j13 (v22, s8.2.2.1, s8.2.2.2.1, s8.2.2.2.2.1, s8.2.2.2.2.2.1, ()) h9) (
j13 (.undef, s8.2.2.1, s8.2.2.2.1, s8.2.2.2.2.1, s8.2.2.2.2.2.1, ()) h9)) fun j10 =>
pWant s5.1 true (
pLoad1 h6 s5.2.2.2.1 fun v23 =>
pNil v23 fun v24 =>
pFieldA v24 14 fun v25 =>
pLoad1 h6 v25 fun v26 =>
pCall c (.fn 158 [] []) [v26] h6 fun v27 h28 =>
pUn .not v27 fun v29 =>
j10 (v29, s5.1, s5.2.1, s5.2.2.1, s5.2.2.2.1, s5.2.2.2.2.1, ()) h28) (
j10 (.undef, s5.1, s5.2.1, s5.2.2.1, s5.2.2.2.1, s5.2.2.2.2.1, ()) h6)) fun j7 =>
pWant v4 false (
pUn .not s1.2.2.2.2.1 fun v30 =>
j7 (v30, v4, s1.2.2.1, s1.2.2.2.1, s1.2.2.2.2.2.1, ()) h2) (
j7 (.undef, v4, s1.2.2.1, s1.2.2.2.1, s1.2.2.2.2.2.1, ()) h2)) fun j3 =>
pWant a1 true (
pLoad1 h a3 fun v31 =>
pNil v31 fun v32 =>
pFieldA v32 14 fun v33 =>
pLoad1 h v33 fun v34 =>
pCall c (.fn 84 [] []) [v34, a0] h fun v35 h36 =>
pUn .not v35 fun v37 =>
j3 (v37, a1, a4, a3, a1, a0, ()) h36) (
j3 (.undef, a1, a4, a3, a1, a0, ()) h))
theorem S157_eq (c : CV) (a0 a1 a2 a3 a4 : AV) (h : AH) : enterK Tryz.prog NN P157 c 157 [a0, a1, a2, a3, a4] h = S157 c a0 a1 a2 a3 a4 h := by kernel_rfl
def W157 (c : CV) (l : List AV) (h : AH) : R := match l with | [a0, a1, a2, a3, a4] => S157 c a0 a1 a2 a3 a4 h | _ => none
theorem W157_ok : WOk Tryz.prog 157 W157 := by
  intro c l h r e
  unfold W157 at e
  split at e
  · exact ⟨P157, by rw [S157_eq]; exact e⟩
  · cases e
/- (*quietus/slate.Slate).AddNone -/
def P158 : Pl := .z
def S158 (c : CV) (a0 : AV) (h : AH) : R :=
pBuild [] [] fun v0 =>
pCall c (.fn 105 [] []) [a0, (.iface 249 v0)] h fun v1 h2 =>
some (v1, h2)
theorem S158_eq (c : CV) (a0 : AV) (h : AH) : enterK Tryz.prog NN P158 c 158 [a0] h = S158 c a0 h := by kernel_rfl
def W158 (c : CV) (l : List AV) (h : AH) : R := match l with | [a0] => S158 c a0 h | _ => none
theorem W158_ok : WOk Tryz.prog 158 W158 := by
  intro c l h r e
  unfold W158 at e
  split at e
  · exact ⟨P158, by rw [S158_eq]; exact e⟩
  · cases e
/- quietus/table.Get$1 -/
def P159 : Pl := (.n none .z (.n none (.n none (.r [[20, 15, 6, 4, 3, 2, 0]]) .z) .z))
def S159 (c : CV) (a0 a1 a2 a3 a4 : AV) (h : AH) : R :=
pLoad1 h a1 fun v0 =>
pCall c (.fn 153 [] []) [a0, v0] h fun v1 h2 =>
pCall c (.fn 143 [] []) [a0] h2 fun v3 h4 =>
pUn .not v3 fun v5 =>
joinC (α := AV × AV × AV × AV × AV × AV × AV × Unit → AH → R) (fun s6 h7 =>
pPick s6.2.1 (.bool true) s6.1 fun v9 =>
pCond v9 (
some ((.tup []), h7)) (
pLoad1 h7 s6.2.2.2.2.2.1 fun v10 =>
pCall c (.fn 155 [] []) [s6.2.2.1, v10] h7 fun v11 h12 =>
pExtract v11 0 fun _ =>
pExtract v11 1 fun v14 =>
pInt .neq v14 (.int .i64 (.ofNat 0)) fun v15 =>
pCond v15 (
pInt .add v14 (.int .i64 (.ofNat 1)) fun v16 =>
pCall c (.fn 149 [] []) [s6.2.2.2.2.2.2.1, v16] h12 fun v17 h18 =>
pStore h18 s6.2.2.2.2.1 v17 1 fun h19 =>
pStore h19 s6.2.2.2.1 (.bool true) 1 fun h20 =>
some ((.tup []), h20)) (
some ((.tup []), h12)))) fun j8 =>
pWant v5 false (
pNil v1 fun v21 =>
pFieldA v21 1 fun v22 =>
pLoad1 h4 v22 fun v23 =>
pInt .eql v23 (.int .i64 (.ofNat 0)) fun v24 =>
j8 (v24, v5, v1, a4, a3, a2, a0, ()) h4) (
j8 (.undef, v5, v1, a4, a3, a2, a0, ()) h4)
theorem S159_eq (c : CV) (a0 a1 a2 a3 a4 : AV) (h : AH) : enterK Tryz.prog NN P159 c 159 [a0, a1, a2, a3, a4] h = S159 c a0 a1 a2 a3 a4 h := by kernel_rfl
def W159 (c : CV) (l : List AV) (h : AH) : R := match l with | [a0, a1, a2, a3, a4] => S159 c a0 a1 a2 a3 a4 h | _ => none
theorem W159_ok : WOk Tryz.prog 159 W159 := by
  intro c l h r e
  unfold W159 at e
  split at e
  · exact ⟨P159, by rw [S159_eq]; exact e⟩
  · cases e
/- quietus/table.Del$1 -/
def P160 : Pl := (.n none .z (.n none (.n none (.r [[19, 14, 5, 3, 2, 0]]) .z) .z))
def S160 (c : CV) (a0 a1 a2 a3 : AV) (h : AH) : R :=
pLoad1 h a1 fun v0 =>
pCall c (.fn 153 [] []) [a0, v0] h fun v1 h2 =>
pCall c (.fn 143 [] []) [a0] h2 fun v3 h4 =>
pUn .not v3 fun v5 =>
joinC (α := AV × AV × AV × AV × AV × AV × Unit → AH → R) (fun s6 h7 =>
pPick s6.2.1 (.bool true) s6.1 fun v9 =>
pCond v9 (
some ((.tup []), h7)) (
pLoad1 h7 s6.2.2.2.2.1 fun v10 =>
pCall c (.fn 155 [] []) [s6.2.2.1, v10] h7 fun v11 h12 =>
pExtract v11 0 fun v13 =>
pExtract v11 1 fun v14 =>
pInt .neq v14 (.int .i64 (.ofNat 0)) fun v15 =>
pCond v15 (
pInt .add v14 (.int .i64 (.ofNat 2)) fun v16 =>
pCall c (.fn 149 [] []) [s6.2.2.2.2.2.1, v16] h12 fun v17 h18 =>
pCall c (.fn 146 [] []) [s6.2.2.2.2.2.1, v13, v17] h18 fun _ h20 =>
pNil s6.2.2.1 fun v21 =>
pFieldA v21 1 fun v22 =>
pLoad1 h20 v22 fun v23 =>
pInt .add v23 (.int .i64 (.ofNat 0)) fun v24 =>
pNil s6.2.2.1 fun v25 =>
pFieldA v25 4 fun v26 =>
pLoad1 h20 v26 fun v27 =>
pInt .sub v27 (.int .u64 (.ofNat 1)) fun v28 =>
pCall c (.fn 146 [] []) [s6.2.2.2.2.2.1, v24, v28] h20 fun _ h30 =>
pCall c (.fn 150 [] []) [s6.2.2.2.2.2.1, v14] h30 fun _ h32 =>
pStore h32 s6.2.2.2.1 (.bool true) 1 fun h33 =>
some ((.tup []), h33)) (
some ((.tup []), h12)))) fun j8 =>
pWant v5 false (
pNil v1 fun v34 =>
pFieldA v34 1 fun v35 =>
pLoad1 h4 v35 fun v36 =>
pInt .eql v36 (.int .i64 (.ofNat 0)) fun v37 =>
j8 (v37, v5, v1, a3, a2, a0, ()) h4) (
j8 (.undef, v5, v1, a3, a2, a0, ()) h4)
theorem S160_eq (c : CV) (a0 a1 a2 a3 : AV) (h : AH) : enterK Tryz.prog NN P160 c 160 [a0, a1, a2, a3] h = S160 c a0 a1 a2 a3 h := by kernel_rfl
def W160 (c : CV) (l : List AV) (h : AH) : R := match l with | [a0, a1, a2, a3] => S160 c a0 a1 a2 a3 h | _ => none
theorem W160_ok : WOk Tryz.prog 160 W160 := by
  intro c l h r e
  unfold W160 at e
  split at e
  · exact ⟨P160, by rw [S160_eq]; exact e⟩
  · cases e
/- quietus/queue.Push -/
def P161 : Pl := .z
def S161 (c : CV) (a0 a1 a2 : AV) (h : AH) : R :=
pBox h 3 a1 fun v0 h1 =>
pBox h1 24 a2 fun v2 h3 =>
pLoad1 h3 v0 fun v4 =>
pCall c (.fn 140 [] []) [a0, v4, (.fn 201 [] [v0, v2])] h3 fun v5 h6 =>
some (v5, h6)
theorem S161_eq (c : CV) (a0 a1 a2 : AV) (h : AH) : enterK Tryz.prog NN P161 c 161 [a0, a1, a2] h = S161 c a0 a1 a2 h := by kernel_rfl
def W161 (c : CV) (l : List AV) (h : AH) : R := match l with | [a0, a1, a2] => S161 c a0 a1 a2 h | _ => none
theorem W161_ok : WOk Tryz.prog 161 W161 := by
  intro c l h r e
  unfold W161 at e
  split at e
  · exact ⟨P161, by rw [S161_eq]; exact e⟩
  · cases e
/- quietus/queue.Take -/
def P162 : Pl := .z
def S162 (c : CV) (a0 a1 : AV) (h : AH) : R :=
pBox h 3 a1 fun v0 h1 =>
pBox h1 24 (.int .u64 (.ofNat 0)) fun v2 h3 =>
pBox h3 4 (.bool false) fun v4 h5 =>
pStore h5 v2 (.int .u64 (.ofNat 0)) 1 fun h6 =>
pStore h6 v4 (.bool false) 1 fun h7 =>
pLoad1 h7 v0 fun v8 =>
pCall c (.fn 140 [] []) [a0, v8, (.fn 202 [] [v0, v2, v4])] h7 fun v9 h10 =>
pInt .neq v9 (.int .i64 (.ofNat 0)) fun v11 =>
pCond v11 (
some ((.tup [(.int .u64 (.ofNat 0)), (.bool false), v9]), h10)) (
pLoad1 h10 v2 fun v12 =>
pLoad1 h10 v4 fun v13 =>
some ((.tup [v12, v13, (.int .i64 (.ofNat 0))]), h10))
theorem S162_eq (c : CV) (a0 a1 : AV) (h : AH) : enterK Tryz.prog NN P162 c 162 [a0, a1] h = S162 c a0 a1 h := by kernel_rfl
def W162 (c : CV) (l : List AV) (h : AH) : R := match l with | [a0, a1] => S162 c a0 a1 h | _ => none
theorem W162_ok : WOk Tryz.prog 162 W162 := by
  intro c l h r e
  unfold W162 at e
  split at e
  · exact ⟨P162, by rw [S162_eq]; exact e⟩
  · cases e
/- quietus/tree.Put$1 -/
def P163 : Pl := .z
def S163 (c : CV) (a0 a1 a2 a3 a4 : AV) (h : AH) : R :=
pLoad1 h a1 fun v0 =>
pBuild [.nilp, (.int .i64 (.ofNat 0)), .nils] [(0, 1, a0), (1, 1, v0)] fun v1 =>
pBox h 229 v1 fun v2 h3 =>
pLoad1 h3 a2 fun v4 =>
pCall c (.fn 164 [] []) [v2, v4] h3 fun v5 h6 =>
pCall c (.fn 143 [] []) [a0] h6 fun v7 h8 =>
pUn .not v7 fun v9 =>
pCond v9 (
some ((.tup []), h8)) (
pInt .neq v5 (.int .i64 (.ofNat 0)) fun v10 =>
pCond v10 (
pInt .add v5 (.int .i64 (.ofNat 1)) fun v11 =>
pLoad1 h8 a3 fun v12 =>
pCall c (.fn 146 [] []) [a0, v11, v12] h8 fun _ h14 =>
some ((.tup []), h14)) (
pCall c (.fn 145 [] []) [a0, (.int .i64 (.ofNat 4))] h8 fun v15 h16 =>
pInt .add v15 (.int .i64 (.ofNat 0)) fun v17 =>
pLoad1 h16 a2 fun v18 =>
pCall c (.fn 146 [] []) [a0, v17, v18] h16 fun _ h20 =>
pInt .add v15 (.int .i64 (.ofNat 1)) fun v21 =>
pLoad1 h20 a3 fun v22 =>
pCall c (.fn 146 [] []) [a0, v21, v22] h20 fun _ h24 =>
pInt .add v15 (.int .i64 (.ofNat 2)) fun v25 =>
pCall c (.fn 146 [] []) [a0, v25, (.int .u64 (.ofNat 1))] h24 fun _ h27 =>
pInt .add v15 (.int .i64 (.ofNat 3)) fun v28 =>
pCall c (.fn 147 [] []) [a0, v28, (.int .i64 (.ofNat 0))] h27 fun _ h30 =>
pNil v2 fun v31 =>
pFieldA v31 2 fun v32 =>
pLoad1 h30 v32 fun v33 =>
pLenS v33 fun v34 =>
pCall c (.fn 165 [] []) [v2, v34, v15] h30 fun _ h36 =>
pCall c (.fn 166 [] []) [v2] h36 fun _ h38 =>
pStore h38 a4 (.bool true) 1 fun h39 =>
some ((.tup []), h39)))
theorem S163_eq (c : CV) (a0 a1 a2 a3 a4 : AV) (h : AH) : enterK Tryz.prog NN P163 c 163 [a0, a1, a2, a3, a4] h = S163 c a0 a1 a2 a3 a4 h := by kernel_rfl
def W163 (c : CV) (l : List AV) (h : AH) : R := match l with | [a0, a1, a2, a3, a4] => S163 c a0 a1 a2 a3 a4 h | _ => none
theorem W163_ok : WOk Tryz.prog 163 W163 := by
  intro c l h r e
  unfold W163 at e
  split at e
  · exact ⟨P163, by rw [S163_eq]; exact e⟩
  · cases e
/- (*quietus/tree.tree).seek -/
def P164 : Pl := (.n none .z (.n none .z (.n none (.n none .z (.n none (.n (some [5, 1, 0]) (.n none (.n none (.r [[20, 15, 5, 1, 0]]) .z) (.n none (.n none .z (.n none .z (.n none .z (.n (some [7, 5, 1, 0]) .z .z)))) .z)) .z) .z)) .z)))
def S164 (c : CV) (a0 a1 : AV) (h : AH) : R :=
pNil a0 fun v0 =>
pFieldA v0 2 fun v1 =>
pStore h v1 .nils 1 fun h2 =>
pCall c (.fn 172 [] []) [a0] h2 fun v3 h4 =>
loopC (σ := AV × AV × AV × Unit) NN (fun i8 s5 h6 d7 =>
pInt .neq s5.1 (.int .i64 (.ofNat 0)) fun v9 =>
joinC (α := AV × AV × AV × AV × AV × Unit → AH → R) (fun s10 h11 =>
pPick s10.2.1 s10.1 (.bool false) fun v13 =>
pCond v13 (
pNil s10.2.2.2.2.1 fun v14 =>
pFieldA v14 0 fun v15 =>
pLoad1 h11 v15 fun v16 =>
pInt .add s10.2.2.1 (.int .i64 (.ofNat 0)) fun v17 =>
pCall c (.fn 149 [] []) [v16, v17] h11 fun v18 h19 =>
pInt .eql v18 s10.2.2.2.1 fun v20 =>
pCond v20 (
pLeave d7 h19 fun h21 =>
some (s10.2.2.1, h21)) (
joinC (α := AV × AV × AV × AV × Unit → AH → List Nat → R) (fun s22 h23 d24 =>
pNil s22.2.2.2.1 fun v26 =>
pFieldA v26 2 fun v27 =>
pLoad1 h23 v27 fun v28 =>
pBuild [(.int .i64 (.ofNat 0)), (.int .i64 (.ofNat 0))] [(0, 1, s22.2.1), (1, 1, s22.1)] fun v29 =>
pBuildS h23 251 [(.int .i64 (.ofNat 0)), (.int .i64 (.ofNat 0))] 1 [(0, 2, v29)] fun v30 h31 =>
pAppend h31 251 2 v28 v30 fun v32 h33 =>
pNil s22.2.2.2.1 fun v34 =>
pFieldA v34 2 fun v35 =>
pStore h33 v35 v32 1 fun h36 =>
pCall c (.fn 203 [] []) [s22.2.2.2.1, s22.2.1, s22.1] h36 fun v37 h38 =>
i8 (v37, s22.2.2.1, s22.2.2.2.1, ()) h38 d24) fun j25 =>
pInt .gtr s10.2.2.2.1 v18 fun v39 =>
pCond v39 (
j25 ((.int .i64 (.ofNat 1)), s10.2.2.1, s10.2.2.2.1, s10.2.2.2.2.1, ()) h19 d7) (
j25 ((.int .i64 (.ofNat 0)), s10.2.2.1, s10.2.2.2.1, s10.2.2.2.2.1, ()) h19 d7))) (
pLeave d7 h11 fun h40 =>
some ((.int .i64 (.ofNat 0)), h40))) fun j12 =>
pWant v9 true (
pNil s5.2.2.1 fun v41 =>
pFieldA v41 0 fun v42 =>
pLoad1 h6 v42 fun v43 =>
pCall c (.fn 195 [] []) [v43] h6 fun v44 h45 =>
j12 (v44, v9, s5.1, s5.2.1, s5.2.2.1, ()) h45) (
j12 (.undef, v9, s5.1, s5.2.1, s5.2.2.1, ()) h6)) (v3, a1, a0, ()) h4 []
theorem S164_eq (c : CV) (a0 a1 : AV) (h : AH) : enterK Tryz.prog NN P164 c 164 [a0, a1] h = S164 c a0 a1 h := by kernel_rfl
def W164 (c : CV) (l : List AV) (h : AH) : R := match l with | [a0, a1] => S164 c a0 a1 h | _ => none
theorem W164_ok : WOk Tryz.prog 164 W164 := by
  intro c l h r e
  unfold W164 at e
  split at e
  · exact ⟨P164, by rw [S164_eq]; exact e⟩
  · cases e
/- (*quietus/tree.tree).link -/
def P165 : Pl := .z
def S165 (c : CV) (a0 a1 a2 : AV) (h : AH) : R :=
pInt .eql a1 (.int .i64 (.ofNat 0)) fun v0 =>
pCond v0 (
pNil a0 fun v1 =>
pFieldA v1 0 fun v2 =>
pLoad1 h v2 fun v3 =>
pNil a0 fun v4 =>
pFieldA v4 1 fun v5 =>
pLoad1 h v5 fun v6 =>
pCall c (.fn 147 [] []) [v3, v6, a2] h fun _ h8 =>
some ((.tup []), h8)) (
pNil a0 fun v9 =>
pFieldA v9 2 fun v10 =>
pLoad1 h v10 fun v11 =>
pInt .sub a1 (.int .i64 (.ofNat 1)) fun v12 =>
pIdxS v11 v12 2 fun v13 =>
pFieldA v13 0 fun v14 =>
pLoad1 h v14 fun v15 =>
pNil a0 fun v16 =>
pFieldA v16 2 fun v17 =>
pLoad1 h v17 fun v18 =>
pInt .sub a1 (.int .i64 (.ofNat 1)) fun v19 =>
pIdxS v18 v19 2 fun v20 =>
pFieldA v20 1 fun v21 =>
pLoad1 h v21 fun v22 =>
pCall c (.fn 204 [] []) [a0, v15, v22, a2] h fun _ h24 =>
some ((.tup []), h24))
theorem S165_eq (c : CV) (a0 a1 a2 : AV) (h : AH) : enterK Tryz.prog NN P165 c 165 [a0, a1, a2] h = S165 c a0 a1 a2 h := by kernel_rfl
def W165 (c : CV) (l : List AV) (h : AH) : R := match l with | [a0, a1, a2] => S165 c a0 a1 a2 h | _ => none
theorem W165_ok : WOk Tryz.prog 165 W165 := by
  intro c l h r e
  unfold W165 at e
  split at e
  · exact ⟨P165, by rw [S165_eq]; exact e⟩
  · cases e
/- (*quietus/tree.tree).raised -/
def P166 : Pl := (.n none (.n none (.n (some [0]) (.n none (.n none (.r [[17, 12, 0]]) .z) (.n none (.n none .z (.n none (.r [[4, 3, 2, 0]]) .z)) .z)) .z) .z) (.n none (.r [[92, 87, 0]]) .z))
def S166 (c : CV) (a0 : AV) (h : AH) : R :=
loopC (σ := AV × Unit) NN (fun i3 s0 h1 d2 =>
pNil s0.1 fun v4 =>
pFieldA v4 2 fun v5 =>
pLoad1 h1 v5 fun v6 =>
pLenS v6 fun v7 =>
pInt .geq v7 (.int .i64 (.ofNat 2)) fun v8 =>
joinC (α := AV × AV × AV × Unit → AH → R) (fun s9 h10 =>
pPick s9.2.1 s9.1 (.bool false) fun v12 =>
pCond v12 (
pNil s9.2.2.1 fun v13 =>
pFieldA v13 2 fun v14 =>
pLoad1 h10 v14 fun v15 =>
pLenS v15 fun v16 =>
joinC (α := AV × AV × AV × AV × Unit → AH → R) (fun s17 h18 =>
pFieldA s17.2.1 0 fun v20 =>
pLoad1 h18 v20 fun v21 =>
pCall c (.fn 205 [] []) [s17.2.2.2.1, v21] h18 fun v22 h23 =>
pUn .not v22 fun v24 =>
pCond v24 (
pLeave d2 h23 fun h25 =>
some ((.tup []), h25)) (
pFieldA s17.1 0 fun v26 =>
pLoad1 h23 v26 fun v27 =>
pFieldA s17.1 1 fun v28 =>
pLoad1 h23 v28 fun v29 =>
pInt .sub (.int .i64 (.ofNat 1)) v29 fun v30 =>
pCall c (.fn 203 [] []) [s17.2.2.2.1, v27, v30] h23 fun v31 h32 =>
pCall c (.fn 205 [] []) [s17.2.2.2.1, v31] h32 fun v33 h34 =>
pUn .not v33 fun v35 =>
pCond v35 (
pLoadN h34 s17.2.1 2 fun v36 =>
pLoadN h34 s17.1 2 fun v37 =>
pCall c (.fn 206 [] []) [s17.2.2.2.1, v36, v37] h34 fun _ h39 =>
pLeave d2 h39 fun h40 =>
some ((.tup []), h40)) (
pFieldA s17.2.1 0 fun v41 =>
pLoad1 h34 v41 fun v42 =>
pCall c (.fn 207 [] []) [s17.2.2.2.1, v42, (.bool false)] h34 fun _ h44 =>
pCall c (.fn 207 [] []) [s17.2.2.2.1, v31, (.bool false)] h44 fun _ h46 =>
pFieldA s17.1 0 fun v47 =>
pLoad1 h46 v47 fun v48 =>
pCall c (.fn 207 [] []) [s17.2.2.2.1, v48, (.bool true)] h46 fun _ h50 =>
pNil s17.2.2.2.1 fun v51 =>
pFieldA v51 2 fun v52 =>
pLoad1 h50 v52 fun v53 =>
pInt .sub s17.2.2.1 (.int .i64 (.ofNat 2)) fun v54 =>
pSlice h50 251 2 v53 none (some v54) fun v55 =>
pNil s17.2.2.2.1 fun v56 =>
pFieldA v56 2 fun v57 =>
pStore h50 v57 v55 1 fun h58 =>
i3 (s17.2.2.2.1, ()) h58 d2))) fun j19 =>
pNil s9.2.2.1 fun v59 =>
pFieldA v59 2 fun v60 =>
pLoad1 h10 v60 fun v61 =>
pInt .sub v16 (.int .i64 (.ofNat 1)) fun v62 =>
pIdxS v61 v62 2 fun v63 =>
pLoadN h10 v63 2 fun v64 =>
pNil s9.2.2.1 fun v65 =>
pFieldA v65 2 fun v66 =>
pLoad1 h10 v66 fun v67 =>
pInt .sub v16 (.int .i64 (.ofNat 2)) fun v68 =>
pIdxS v67 v68 2 fun v69 =>
pLoadN h10 v69 2 fun v70 =>
pBox h10 251 (.agg [(.int .i64 (.ofNat 0)), (.int .i64 (.ofNat 0))]) fun v71 h72 =>
pBox h72 251 (.agg [(.int .i64 (.ofNat 0)), (.int .i64 (.ofNat 0))]) fun v73 h74 =>
pStore h74 v71 v64 2 fun h75 =>
pStore h75 v73 v70 2 fun h76 =>
pChk v69 (some 2) v70 h74 h75 h10.nx <|
pChk v66 none v67 h74 h75 h10.nx <|
j19 (v73, v71, v16, s9.2.2.1, ()) h76) (
pNil s9.2.2.1 fun v77 =>
pFieldA v77 2 fun v78 =>
pLoad1 h10 v78 fun v79 =>
pLenS v79 fun v80 =>
pInt .lss v80 (.int .i64 (.ofNat 2)) fun v81 =>
joinC (α := AV × AV × AV × Unit → AH → R) (fun s82 h83 =>
pPick s82.2.1 s82.1 (.bool false) fun v85 =>
pCond v85 (
pCall c (.fn 172 [] []) [s82.2.2.1] h83 fun v86 h87 =>
pCall c (.fn 207 [] []) [s82.2.2.1, v86, (.bool false)] h87 fun _ h89 =>
pLeave d2 h89 fun h90 =>
some ((.tup []), h90)) (
pLeave d2 h83 fun h91 =>
some ((.tup []), h91))) fun j84 =>
pWant v81 true (
pNil s9.2.2.1 fun v92 =>
pFieldA v92 0 fun v93 =>
pLoad1 h10 v93 fun v94 =>
pCall c (.fn 143 [] []) [v94] h10 fun v95 h96 =>
j84 (v95, v81, s9.2.2.1, ()) h96) (
j84 (.undef, v81, s9.2.2.1, ()) h10))) fun j11 =>
pWant v8 true (
pNil s0.1 fun v97 =>
pFieldA v97 0 fun v98 =>
pLoad1 h1 v98 fun v99 =>
pCall c (.fn 195 [] []) [v99] h1 fun v100 h101 =>
j11 (v100, v8, s0.1, ()) h101) (
j11 (.undef, v8, s0.1, ()) h1)) (a0, ()) h []
theorem S166_eq (c : CV) (a0 : AV) (h : AH) : enterK Tryz.prog NN P166 c 166 [a0] h = S166 c a0 h := by kernel_rfl
def W166 (c : CV) (l : List AV) (h : AH) : R := match l with | [a0] => S166 c a0 h | _ => none
theorem W166_ok : WOk Tryz.prog 166 W166 := by
  intro c l h r e
  unfold W166 at e
  split at e
  · exact ⟨P166, by rw [S166_eq]; exact e⟩
  · cases e
/- quietus/tree.Get$1 -/
def P167 : Pl := .z
def S167 (c : CV) (a0 a1 a2 a3 a4 : AV) (h : AH) : R :=
pLoad1 h a1 fun v0 =>
pBuild [.nilp, (.int .i64 (.ofNat 0)), .nils] [(0, 1, a0), (1, 1, v0)] fun v1 =>
pBox h 229 v1 fun v2 h3 =>
pLoad1 h3 a2 fun v4 =>
pCall c (.fn 164 [] []) [v2, v4] h3 fun v5 h6 =>
pInt .neq v5 (.int .i64 (.ofNat 0)) fun v7 =>
pCond v7 (
pInt .add v5 (.int .i64 (.ofNat 1)) fun v8 =>
pCall c (.fn 149 [] []) [a0, v8] h6 fun v9 h10 =>
pStore h10 a3 v9 1 fun h11 =>
pStore h11 a4 (.bool true) 1 fun h12 =>
some ((.tup []), h12)) (
some ((.tup []), h6))
theorem S167_eq (c : CV) (a0 a1 a2 a3 a4 : AV) (h : AH) : enterK Tryz.prog NN P167 c 167 [a0, a1, a2, a3, a4] h = S167 c a0 a1 a2 a3 a4 h := by kernel_rfl
def W167 (c : CV) (l : List AV) (h : AH) : R := match l with | [a0, a1, a2, a3, a4] => S167 c a0 a1 a2 a3 a4 h | _ => none
theorem W167_ok : WOk Tryz.prog 167 W167 := by
  intro c l h r e
  unfold W167 at e
  split at e
  · exact ⟨P167, by rw [S167_eq]; exact e⟩
  · cases e
/- quietus/tree.Del$1 -/
def P168 : Pl := (.n none .z (.n none .z (.n none (.r [[18, 16, 6, 5, 3]]) .z)))
def S168 (c : CV) (a0 a1 a2 a3 : AV) (h : AH) : R :=
pLoad1 h a1 fun v0 =>
pBuild [.nilp, (.int .i64 (.ofNat 0)), .nils] [(0, 1, a0), (1, 1, v0)] fun v1 =>
pBox h 229 v1 fun v2 h3 =>
pLoad1 h3 a2 fun v4 =>
pCall c (.fn 164 [] []) [v2, v4] h3 fun v5 h6 =>
pInt .neq v5 (.int .i64 (.ofNat 0)) fun v7 =>
joinC (α := AV × AV × AV × AV × AV × Unit → AH → R) (fun s8 h9 =>
pPick s8.2.1 s8.1 (.bool false) fun v11 =>
pCond v11 (
pCall c (.fn 169 [] []) [s8.2.2.2.1, s8.2.2.1] h9 fun _ h13 =>
pStore h13 s8.2.2.2.2.1 (.bool true) 1 fun h14 =>
some ((.tup []), h14)) (
some ((.tup []), h9))) fun j10 =>
pWant v7 true (
pCall c (.fn 143 [] []) [a0] h6 fun v15 h16 =>
j10 (v15, v7, v5, v2, a3, ()) h16) (
j10 (.undef, v7, v5, v2, a3, ()) h6)
theorem S168_eq (c : CV) (a0 a1 a2 a3 : AV) (h : AH) : enterK Tryz.prog NN P168 c 168 [a0, a1, a2, a3] h = S168 c a0 a1 a2 a3 h := by kernel_rfl
def W168 (c : CV) (l : List AV) (h : AH) : R := match l with | [a0, a1, a2, a3] => S168 c a0 a1 a2 a3 h | _ => none
theorem W168_ok : WOk Tryz.prog 168 W168 := by
  intro c l h r e
  unfold W168 at e
  split at e
  · exact ⟨P168, by rw [S168_eq]; exact e⟩
  · cases e
/- (*quietus/tree.tree).cut -/
def P169 : Pl := (.n (some [1, 0]) (.n none (.r [[15, 11, 1, 0]]) (.n none (.n none .z (.n none (.r [[4, 1, 0]]) (.n none (.r [[4, 0]]) .z))) .z)) (.n none .z (.n (some [5, 1, 0]) .z (.n none .z (.n none .z (.n none (.n (some [1, 0]) .z .z) .z))))))
def S169 (c : CV) (a0 a1 : AV) (h : AH) : R :=
joinC (α := AV × AV × Unit → AH → List Nat → R) (fun s0 h1 d2 =>
pCall c (.fn 203 [] []) [s0.2.1, s0.1, (.int .i64 (.ofNat 0))] h1 fun v4 h5 =>
joinC (α := AV × AV × AV × Unit → AH → List Nat → R) (fun s6 h7 d8 =>
pCall c (.fn 205 [] []) [s6.2.2.1, s6.2.1] h7 fun v10 h11 =>
pNil s6.2.2.1 fun v12 =>
pFieldA v12 2 fun v13 =>
pLoad1 h11 v13 fun v14 =>
pLenS v14 fun v15 =>
pCall c (.fn 165 [] []) [s6.2.2.1, v15, s6.1] h11 fun _ h17 =>
joinC (α := AV × AV × Unit → AH → List Nat → R) (fun s18 h19 d20 =>
pNil s18.2.1 fun v22 =>
pFieldA v22 0 fun v23 =>
pLoad1 h19 v23 fun v24 =>
pCall c (.fn 150 [] []) [v24, s18.1] h19 fun _ h26 =>
pLeave d20 h26 fun h27 =>
some ((.tup []), h27)) fun j21 =>
pCond v10 (
j21 (s6.2.1, s6.2.2.1, ()) h17 d8) (
pCall c (.fn 205 [] []) [s6.2.2.1, s6.1] h17 fun v28 h29 =>
pCond v28 (
pCall c (.fn 207 [] []) [s6.2.2.1, s6.1, (.bool false)] h29 fun _ h31 =>
j21 (s6.2.1, s6.2.2.1, ()) h31 d8) (
pCall c (.fn 209 [] []) [s6.2.2.1] h29 fun _ h33 =>
j21 (s6.2.1, s6.2.2.1, ()) h33 d8))) fun j9 =>
pInt .eql v4 (.int .i64 (.ofNat 0)) fun v34 =>
pCond v34 (
pCall c (.fn 203 [] []) [s0.2.1, s0.1, (.int .i64 (.ofNat 1))] h5 fun v35 h36 =>
j9 (v35, s0.1, s0.2.1, ()) h36 d2) (
j9 (v4, s0.1, s0.2.1, ()) h5 d2)) fun j3 =>
pCall c (.fn 203 [] []) [a0, a1, (.int .i64 (.ofNat 0))] h fun v37 h38 =>
pInt .neq v37 (.int .i64 (.ofNat 0)) fun v39 =>
joinC (α := AV × AV × AV × AV × Unit → AH → R) (fun s40 h41 =>
pPick s40.2.1 s40.1 (.bool false) fun v43 =>
pCond v43 (
pCall c (.fn 208 [] []) [s40.2.2.2.1, s40.2.2.1] h41 fun v44 h45 =>
joinC (α := AV × AV × AV × Unit → AH → R) (fun s46 h47 =>
joinC (α := AV × AV × Unit → AH → R) (fun s49 h50 =>
j3 (s49.1, s49.2.1, ()) h50 []) fun j51 =>
pNil s46.2.2.1 fun v52 =>
pFieldA v52 0 fun v53 =>
pLoad1 h47 v53 fun v54 =>
pInt .add s46.2.1 (.int .i64 (.ofNat 1)) fun v55 =>
pNil s46.2.2.1 fun v56 =>
pFieldA v56 0 fun v57 =>
pLoad1 h47 v57 fun v58 =>
pInt .add s46.1 (.int .i64 (.ofNat 1)) fun v59 =>
pCall c (.fn 149 [] []) [v58, v59] h47 fun v60 h61 =>
pCall c (.fn 146 [] []) [v54, v55, v60] h61 fun _ h63 =>
pChk v53 none v54 h47 h61 h47.nx <|
j51 (s46.1, s46.2.2.1, ()) h63) fun j48 =>
pNil s40.2.2.2.1 fun v64 =>
pFieldA v64 0 fun v65 =>
pLoad1 h45 v65 fun v66 =>
pInt .add s40.2.2.1 (.int .i64 (.ofNat 0)) fun v67 =>
pNil s40.2.2.2.1 fun v68 =>
pFieldA v68 0 fun v69 =>
pLoad1 h45 v69 fun v70 =>
pInt .add v44 (.int .i64 (.ofNat 0)) fun v71 =>
pCall c (.fn 149 [] []) [v70, v71] h45 fun v72 h73 =>
pCall c (.fn 146 [] []) [v66, v67, v72] h73 fun _ h75 =>
pChk v65 none v66 h45 h73 h45.nx <|
j48 (v44, s40.2.2.1, s40.2.2.2.1, ()) h75) (
j3 (s40.2.2.1, s40.2.2.2.1, ()) h41 [])) fun j42 =>
pWant v39 true (
pCall c (.fn 203 [] []) [a0, a1, (.int .i64 (.ofNat 1))] h38 fun v76 h77 =>
pInt .neq v76 (.int .i64 (.ofNat 0)) fun v78 =>
j42 (v78, v39, a1, a0, ()) h77) (
j42 (.undef, v39, a1, a0, ()) h38)
theorem S169_eq (c : CV) (a0 a1 : AV) (h : AH) : enterK Tryz.prog NN P169 c 169 [a0, a1] h = S169 c a0 a1 h := by kernel_rfl
def W169 (c : CV) (l : List AV) (h : AH) : R := match l with | [a0, a1] => S169 c a0 a1 h | _ => none
theorem W169_ok : WOk Tryz.prog 169 W169 := by
  intro c l h r e
  unfold W169 at e
  split at e
  · exact ⟨P169, by rw [S169_eq]; exact e⟩
  · cases e
/- quietus/tree.Range$1 -/
def P170 : Pl := (.n none .z (.r [[]]))
def S170 (c : CV) (a0 a1 a2 a3 a4 : AV) (h : AH) : R :=
pLoad1 h a1 fun v0 =>
pBuild [.nilp, (.int .i64 (.ofNat 0)), .nils] [(0, 1, a0), (1, 1, v0)] fun v1 =>
pBox h 229 v1 fun v2 h3 =>
joinC (α := Unit → AH → R) (fun _ h5 =>
some ((.tup []), h5)) fun j6 =>
pCall c (.fn 172 [] []) [v2] h3 fun v7 h8 =>
pLoad1 h8 a2 fun v9 =>
pLoad1 h8 a3 fun v10 =>
pCall c (.fn 171 [] []) [v2, v7, v9, v10, .nils] h8 fun v11 h12 =>
pStore h12 a4 v11 1 fun h13 =>
pChk a3 none v10 h3 h8 h3.nx <|
pChk a2 none v9 h3 h8 h3.nx <|
j6 (()) h13
theorem S170_eq (c : CV) (a0 a1 a2 a3 a4 : AV) (h : AH) : enterK Tryz.prog NN P170 c 170 [a0, a1, a2, a3, a4] h = S170 c a0 a1 a2 a3 a4 h := by kernel_rfl
def W170 (c : CV) (l : List AV) (h : AH) : R := match l with | [a0, a1, a2, a3, a4] => S170 c a0 a1 a2 a3 a4 h | _ => none
theorem W170_ok : WOk Tryz.prog 170 W170 := by
  intro c l h r e
  unfold W170 at e
  split at e
  · exact ⟨P170, by rw [S170_eq]; exact e⟩
  · cases e
/- (*quietus/tree.tree).between -/
def P171 : Pl := (.n none .z (.n none (.n none (.r [[20, 14, 4, 3, 2, 1, 0]]) .z) (.n none .z (.n (some [11, 4, 3, 2, 1, 0]) .z (.n (some [11, 4, 3, 2, 1, 0]) (.n none (.r [[47, 44, 11, 4, 3, 2, 1, 0]]) .z) (.n (some [4]) .z .z))))))
def S171 (c : CV) (a0 a1 a2 a3 a4 : AV) (h : AH) : R :=
pInt .eql a1 (.int .i64 (.ofNat 0)) fun v0 =>
joinC (α := AV × AV × AV × AV × AV × AV × AV × Unit → AH → R) (fun s1 h2 =>
pPick s1.2.1 (.bool true) s1.1 fun v4 =>
pCond v4 (
some (s1.2.2.1, h2)) (
pNil s1.2.2.2.2.2.2.1 fun v5 =>
pFieldA v5 0 fun v6 =>
pLoad1 h2 v6 fun v7 =>
pInt .add s1.2.2.2.2.2.1 (.int .i64 (.ofNat 0)) fun v8 =>
pCall c (.fn 149 [] []) [v7, v8] h2 fun v9 h10 =>
joinC (α := AV × AV × AV × AV × AV × AV × Unit → AH → List Nat → R) (fun s11 h12 d13 =>
joinC (α := AV × AV × AV × AV × AV × AV × Unit → AH → List Nat → R) (fun s15 h16 d17 =>
joinC (α := AV × Unit → AH → List Nat → R) (fun s19 h20 d21 =>
pLeave d21 h20 fun h23 =>
some (s19.1, h23)) fun j22 =>
pInt .lss s15.1 s15.2.2.1 fun v24 =>
pCond v24 (
pCall c (.fn 203 [] []) [s15.2.2.2.2.2.1, s15.2.2.2.2.1, (.int .i64 (.ofNat 1))] h16 fun v25 h26 =>
pCall c (.fn 171 [] []) [s15.2.2.2.2.2.1, v25, s15.2.2.2.1, s15.2.2.1, s15.2.1] h26 fun v27 h28 =>
j22 (v27, ()) h28 d17) (
j22 (s15.2.1, ()) h16 d17)) fun j18 =>
pInt .leq s11.2.2.2.1 s11.1 fun v29 =>
joinC (α := AV × AV × AV × AV × AV × AV × AV × AV × Unit → AH → R) (fun s30 h31 =>
pPick s30.2.1 s30.1 (.bool false) fun v33 =>
pCond v33 (
pNil s30.2.2.2.2.2.2.2.1 fun v34 =>
pFieldA v34 0 fun v35 =>
pLoad1 h31 v35 fun v36 =>
pInt .add s30.2.2.2.2.2.2.1 (.int .i64 (.ofNat 1)) fun v37 =>
pCall c (.fn 149 [] []) [v36, v37] h31 fun v38 h39 =>
pBuild [(.int .u64 (.ofNat 0)), (.int .u64 (.ofNat 0))] [(0, 1, s30.2.2.1), (1, 1, v38)] fun v40 =>
pBuildS h39 256 [(.int .u64 (.ofNat 0)), (.int .u64 (.ofNat 0))] 1 [(0, 2, v40)] fun v41 h42 =>
pAppend h42 256 2 s30.2.2.2.1 v41 fun v43 h44 =>
j18 (s30.2.2.1, v43, s30.2.2.2.2.1, s30.2.2.2.2.2.1, s30.2.2.2.2.2.2.1, s30.2.2.2.2.2.2.2.1, ()) h44 d13) (
j18 (s30.2.2.1, s30.2.2.2.1, s30.2.2.2.2.1, s30.2.2.2.2.2.1, s30.2.2.2.2.2.2.1, s30.2.2.2.2.2.2.2.1, ()) h31 d13)) fun j32 =>
pWant v29 true (
pInt .leq s11.1 s11.2.2.1 fun v45 =>
j32 (v45, v29, s11.1, s11.2.1, s11.2.2.1, s11.2.2.2.1, s11.2.2.2.2.1, s11.2.2.2.2.2.1, ()) h12) (
j32 (.undef, v29, s11.1, s11.2.1, s11.2.2.1, s11.2.2.2.1, s11.2.2.2.2.1, s11.2.2.2.2.2.1, ()) h12)) fun j14 =>
pInt .lss s1.2.2.2.2.1 v9 fun v46 =>
pCond v46 (
pCall c (.fn 203 [] []) [s1.2.2.2.2.2.2.1, s1.2.2.2.2.2.1, (.int .i64 (.ofNat 0))] h10 fun v47 h48 =>
pCall c (.fn 171 [] []) [s1.2.2.2.2.2.2.1, v47, s1.2.2.2.2.1, s1.2.2.2.1, s1.2.2.1] h48 fun v49 h50 =>
j14 (v9, v49, s1.2.2.2.1, s1.2.2.2.2.1, s1.2.2.2.2.2.1, s1.2.2.2.2.2.2.1, ()) h50 []) (
j14 (v9, s1.2.2.1, s1.2.2.2.1, s1.2.2.2.2.1, s1.2.2.2.2.2.1, s1.2.2.2.2.2.2.1, ()) h10 []))) fun j3 =>
pWant v0 false (
pNil a0 fun v51 =>
pFieldA v51 0 fun v52 =>
pLoad1 h v52 fun v53 =>
pCall c (.fn 195 [] []) [v53] h fun v54 h55 =>
pUn .not v54 fun v56 =>
j3 (v56, v0, a4, a3, a2, a1, a0, ()) h55) (
j3 (.undef, v0, a4, a3, a2, a1, a0, ()) h)
theorem S171_eq (c : CV) (a0 a1 a2 a3 a4 : AV) (h : AH) : enterK Tryz.prog NN P171 c 171 [a0, a1, a2, a3, a4] h = S171 c a0 a1 a2 a3 a4 h := by kernel_rfl
def W171 (c : CV) (l : List AV) (h : AH) : R := match l with | [a0, a1, a2, a3, a4] => S171 c a0 a1 a2 a3 a4 h | _ => none
theorem W171_ok : WOk Tryz.prog 171 W171 := by
  intro c l h r e
  unfold W171 at e
  split at e
  · exact ⟨P171, by rw [S171_eq]; exact e⟩
  · cases e
/- (*quietus/tree.tree).top -/
def P172 : Pl := .z
def S172 (c : CV) (a0 : AV) (h : AH) : R :=
pNil a0 fun v0 =>
pFieldA v0 0 fun v1 =>
pLoad1 h v1 fun v2 =>
pNil a0 fun v3 =>
pFieldA v3 1 fun v4 =>
pLoad1 h v4 fun v5 =>
pCall c (.fn 196 [] []) [v2, v5] h fun v6 h7 =>
some (v6, h7)
theorem S172_eq (c : CV) (a0 : AV) (h : AH) : enterK Tryz.prog NN P172 c 172 [a0] h = S172 c a0 h := by kernel_rfl
def W172 (c : CV) (l : List AV) (h : AH) : R := match l with | [a0] => S172 c a0 h | _ => none
theorem W172_ok : WOk Tryz.prog 172 W172 := by
  intro c l h r e
  unfold W172 at e
  split at e
  · exact ⟨P172, by rw [S172_eq]; exact e⟩
  · cases e
/- quietus/arena.Class -/
def P173 : Pl := (.n none .z (.n none .z (.n none (.n none .z (.n none (.n (some [3, 0]) .z .z) .z)) .z)))
def S173 (c : CV) (a0 : AV) (h : AH) : R :=
pInt .lss a0 (.int .i64 (.ofNat 1)) fun v0 =>
pCond v0 (
some ((.int .i64 (.ofNat 0)), h)) (
loopC (σ := AV × AV × Unit) NN (fun i4 s1 h2 d3 =>
pInt .leq s1.1 (.int .i64 (.ofNat 4)) fun v5 =>
pCond v5 (
pCall c (.fn 21 [] []) [s1.1] h2 fun v6 h7 =>
pInt .geq v6 s1.2.1 fun v8 =>
pCond v8 (
pLeave d3 h7 fun h9 =>
some (s1.1, h9)) (
pInt .add s1.1 (.int .i64 (.ofNat 1)) fun v10 =>
i4 (v10, s1.2.1, ()) h7 d3)) (
pLeave d3 h2 fun h11 =>
some ((.int .i64 (.ofNat 0)), h11))) ((.int .i64 (.ofNat 1)), a0, ()) h [])
theorem S173_eq (c : CV) (a0 : AV) (h : AH) : enterK Tryz.prog NN P173 c 173 [a0] h = S173 c a0 h := by kernel_rfl
def W173 (c : CV) (l : List AV) (h : AH) : R := match l with | [a0] => S173 c a0 h | _ => none
theorem W173_ok : WOk Tryz.prog 173 W173 := by
  intro c l h r e
  unfold W173 at e
  split at e
  · exact ⟨P173, by rw [S173_eq]; exact e⟩
  · cases e
/- quietus/arena.again -/
def P174 : Pl := (.n none .z (.n none .z (.n none .z (.n none .z (.n (some [10, 8]) .z .z)))))
def S174 (c : CV) (a0 a1 a2 : AV) (h : AH) : R :=
pInt .geq a2 (.int .u64 (.ofNat 2147483648)) fun v0 =>
pCond v0 (
some ((.tup [(.int .i64 (.ofNat 0)), (.int .i64 (.ofNat 2))]), h)) (
pConvI .i64 a2 fun v1 =>
pCall c (.fn 56 [] []) [a0, v1] h fun v2 h3 =>
pExtract v2 0 fun v4 =>
pExtract v2 1 fun v5 =>
joinC (α := AV × AV × Unit → AH → List Nat → R) (fun s6 h7 d8 =>
pInt .neq s6.1 (.int .i64 (.ofNat 0)) fun v10 =>
pCond v10 (
pLeave d8 h7 fun h11 =>
some ((.tup [(.int .i64 (.ofNat 0)), s6.1]), h11)) (
pLeave d8 h7 fun h12 =>
some ((.tup [s6.2.1, (.int .i64 (.ofNat 0))]), h12))) fun j9 =>
pInt .eql v5 (.int .i64 (.ofNat 0)) fun v13 =>
pCond v13 (
pCall c (.fn 33 [] []) [a1] h3 fun v14 h15 =>
pBuild [(.int .i64 (.ofNat 0)), (.int .u64 (.ofNat 0))] [(0, 1, v14), (1, 1, v4)] fun v16 =>
pInt .sub v1 (.int .i64 (.ofNat 1)) fun v17 =>
pInt .add a1 (.int .i64 (.ofNat 8)) fun v18 =>
pConvI .u64 v18 fun v19 =>
pBuild [(.int .i64 (.ofNat 0)), (.int .u64 (.ofNat 0))] [(0, 1, v17), (1, 1, v19)] fun v20 =>
pBuildS h15 35 [(.int .i64 (.ofNat 0)), (.int .u64 (.ofNat 0))] 2 [(0, 2, v16), (2, 2, v20)] fun v21 h22 =>
pCall c (.fn 57 [] []) [a0, v21] h22 fun v23 h24 =>
j9 (v23, v1, ()) h24 []) (
j9 (v5, v1, ()) h3 []))
theorem S174_eq (c : CV) (a0 a1 a2 : AV) (h : AH) : enterK Tryz.prog NN P174 c 174 [a0, a1, a2] h = S174 c a0 a1 a2 h := by kernel_rfl
def W174 (c : CV) (l : List AV) (h : AH) : R := match l with | [a0, a1, a2] => S174 c a0 a1 a2 h | _ => none
theorem W174_ok : WOk Tryz.prog 174 W174 := by
  intro c l h r e
  unfold W174 at e
  split at e
  · exact ⟨P174, by rw [S174_eq]; exact e⟩
  · cases e
/- quietus/arena.grown -/
def P175 : Pl := (.n none .z (.n none .z (.n none .z (.n none (.n none (.r [[22, 20, 6, 1, 0], [33, 24, 6, 1, 0]]) .z) .z))))
def S175 (c : CV) (a0 a1 : AV) (h : AH) : R :=
pCall c (.fn 56 [] []) [a0, (.int .i64 (.ofNat 5))] h fun v0 h1 =>
pExtract v0 0 fun v2 =>
pExtract v0 1 fun v3 =>
pInt .neq v3 (.int .i64 (.ofNat 0)) fun v4 =>
pCond v4 (
some ((.tup [(.int .i64 (.ofNat 0)), v3]), h1)) (
pInt .lss v2 (.int .u64 (.ofNat 14)) fun v5 =>
joinC (α := AV × AV × AV × AV × AV × Unit → AH → R) (fun s6 h7 =>
pPick s6.2.1 (.bool true) s6.1 fun v9 =>
joinC (α := AV × AV × AV × AV × AV × Unit → AH → R) (fun s10 h11 =>
pPick s10.2.1 (.bool true) s10.1 fun v13 =>
pCond v13 (
some ((.tup [(.int .i64 (.ofNat 0)), (.int .i64 (.ofNat 4))]), h11)) (
pConvI .i64 s10.2.2.1 fun v14 =>
pInt .add v14 (.int .i64 (.ofNat 1)) fun v15 =>
pCall c (.fn 21 [] []) [s10.2.2.2.1] h11 fun v16 h17 =>
pInt .add v15 v16 fun v18 =>
pConvI .u64 v18 fun v19 =>
pBuild [(.int .i64 (.ofNat 0)), (.int .u64 (.ofNat 0))] [(0, 1, (.int .i64 (.ofNat 5))), (1, 1, v19)] fun v20 =>
pInt .add s10.2.2.2.1 (.int .i64 (.ofNat 8)) fun v21 =>
pConvI .u64 v21 fun v22 =>
pBuild [(.int .i64 (.ofNat 0)), (.int .u64 (.ofNat 0))] [(0, 1, v14), (1, 1, v22)] fun v23 =>
pBuildS h17 35 [(.int .i64 (.ofNat 0)), (.int .u64 (.ofNat 0))] 2 [(0, 2, v20), (2, 2, v23)] fun v24 h25 =>
pCall c (.fn 57 [] []) [s10.2.2.2.2.1, v24] h25 fun v26 h27 =>
pInt .neq v26 (.int .i64 (.ofNat 0)) fun v28 =>
pCond v28 (
some ((.tup [(.int .i64 (.ofNat 0)), v26]), h27)) (
pInt .add v14 (.int .i64 (.ofNat 1)) fun v29 =>
some ((.tup [v29, (.int .i64 (.ofNat 0))]), h27)))) fun j12 =>
pWant v9 false (
pConvI .i64 s6.2.2.1 fun v30 =>
pInt .add v30 (.int .i64 (.ofNat 1)) fun v31 =>
pCall c (.fn 21 [] []) [s6.2.2.2.1] h7 fun v32 h33 =>
pInt .add v31 v32 fun v34 =>
pCall c (.fn 53 [] []) [s6.2.2.2.2.1] h33 fun v35 h36 =>
pInt .gtr v34 v35 fun v37 =>
j12 (v37, v9, s6.2.2.1, s6.2.2.2.1, s6.2.2.2.2.1, ()) h36) (
j12 (.undef, v9, s6.2.2.1, s6.2.2.2.1, s6.2.2.2.2.1, ()) h7)) fun j8 =>
pWant v5 false (
pInt .geq v2 (.int .u64 (.ofNat 2147483648)) fun v38 =>
j8 (v38, v5, v2, a1, a0, ()) h1) (
j8 (.undef, v5, v2, a1, a0, ()) h1))
theorem S175_eq (c : CV) (a0 a1 : AV) (h : AH) : enterK Tryz.prog NN P175 c 175 [a0, a1] h = S175 c a0 a1 h := by kernel_rfl
def W175 (c : CV) (l : List AV) (h : AH) : R := match l with | [a0, a1] => S175 c a0 a1 h | _ => none
theorem W175_ok : WOk Tryz.prog 175 W175 := by
  intro c l h r e
  unfold W175 at e
  split at e
  · exact ⟨P175, by rw [S175_eq]; exact e⟩
  · cases e
/- (*quietus/view.View).Free -/
def P176 : Pl := .z
def S176 (c : CV) (a0 a1 : AV) (h : AH) : R :=
pNil a0 fun v0 =>
pFieldA v0 2 fun v1 =>
pLoad1 h v1 fun v2 =>
pCall c (.fn 210 [] []) [v2, a1] h fun _ h4 =>
some ((.tup []), h4)
theorem S176_eq (c : CV) (a0 a1 : AV) (h : AH) : enterK Tryz.prog NN P176 c 176 [a0, a1] h = S176 c a0 a1 h := by kernel_rfl
def W176 (c : CV) (l : List AV) (h : AH) : R := match l with | [a0, a1] => S176 c a0 a1 h | _ => none
theorem W176_ok : WOk Tryz.prog 176 W176 := by
  intro c l h r e
  unfold W176 at e
  split at e
  · exact ⟨P176, by rw [S176_eq]; exact e⟩
  · cases e
/- (*quietus/view.View).Open -/
def P177 : Pl := .z
def S177 (c : CV) (a0 : AV) (h : AH) : R :=
pNil a0 fun v0 =>
pFieldA v0 2 fun v1 =>
pLoad1 h v1 fun v2 =>
pCall c (.fn 211 [] []) [v2] h fun v3 h4 =>
some (v3, h4)
theorem S177_eq (c : CV) (a0 : AV) (h : AH) : enterK Tryz.prog NN P177 c 177 [a0] h = S177 c a0 h := by kernel_rfl
def W177 (c : CV) (l : List AV) (h : AH) : R := match l with | [a0] => S177 c a0 h | _ => none
theorem W177_ok : WOk Tryz.prog 177 W177 := by
  intro c l h r e
  unfold W177 at e
  split at e
  · exact ⟨P177, by rw [S177_eq]; exact e⟩
  · cases e
/- (*quietus/slate.Slate).Len -/
def P178 : Pl := .z
def S178 (_ : CV) (a0 : AV) (h : AH) : R :=
pNil a0 fun v0 =>
pFieldA v0 0 fun v1 =>
pLoad1 h v1 fun v2 =>
pLenS v2 fun v3 =>
some (v3, h)
theorem S178_eq (c : CV) (a0 : AV) (h : AH) : enterK Tryz.prog NN P178 c 178 [a0] h = S178 c a0 h := by kernel_rfl
def W178 (c : CV) (l : List AV) (h : AH) : R := match l with | [a0] => S178 c a0 h | _ => none
theorem W178_ok : WOk Tryz.prog 178 W178 := by
  intro c l h r e
  unfold W178 at e
  split at e
  · exact ⟨P178, by rw [S178_eq]; exact e⟩
  · cases e
/- (*quietus/levels.Levels).Keep -/
def P179 : Pl := (.n none .z (.n none .z (.n none .z (.n none .z (.n none .z (.n none (.r [[2]]) .z))))))
def S179 (c : CV) (a0 : AV) (h : AH) : R :=
pCall c (.fn 96 [] []) [a0] h fun v0 h1 =>
pCall c (.fn 181 [] []) [a0] h1 fun v2 h3 =>
pInt .neq v2 (.int .i64 (.ofNat 0)) fun v4 =>
pCond v4 (
some (v2, h3)) (
pCall c (.fn 96 [] []) [a0] h3 fun v5 h6 =>
pNil v5 fun v7 =>
pFieldA v7 1 fun v8 =>
pLoad1 h6 v8 fun v9 =>
pNil v0 fun v10 =>
pFieldA v10 1 fun v11 =>
pLoad1 h6 v11 fun v12 =>
pAppend h6 3 1 v9 v12 fun v13 h14 =>
pNil v5 fun v15 =>
pFieldA v15 1 fun v16 =>
pStore h14 v16 v13 1 fun h17 =>
joinC (α := AV × Unit → AH → R) (fun s18 h19 =>
some (s18.1, h19)) fun j20 =>
pNil v5 fun v21 =>
pFieldA v21 0 fun v22 =>
pLoad1 h17 v22 fun v23 =>
pNil v0 fun v24 =>
pFieldA v24 0 fun v25 =>
pLoad1 h17 v25 fun v26 =>
pCall c (.fn 76 [] []) [v26] h17 fun v27 h28 =>
pCall c (.fn 75 [] []) [v23, v27] h28 fun v29 h30 =>
pChk v22 none v23 h17 h28 h17.nx <|
j20 (v29, ()) h30)
theorem S179_eq (c : CV) (a0 : AV) (h : AH) : enterK Tryz.prog NN P179 c 179 [a0] h = S179 c a0 h := by kernel_rfl
def W179 (c : CV) (l : List AV) (h : AH) : R := match l with | [a0] => S179 c a0 h | _ => none
theorem W179_ok : WOk Tryz.prog 179 W179 := by
  intro c l h r e
  unfold W179 at e
  split at e
  · exact ⟨P179, by rw [S179_eq]; exact e⟩
  · cases e
/- (*quietus/slate.Slate).Cut -/
def P180 : Pl := .z
def S180 (c : CV) (a0 a1 : AV) (h : AH) : R :=
pNil a0 fun v0 =>
pFieldA v0 0 fun v1 =>
pLoad1 h v1 fun v2 =>
pNil a0 fun v3 =>
pFieldA v3 0 fun v4 =>
pLoad1 h v4 fun v5 =>
pLenS v5 fun v6 =>
pMM false [a1, v6] fun v7 =>
pMM true [(.int .i64 (.ofNat 0)), v7] fun v8 =>
pSlice h 20 1 v2 none (some v8) fun v9 =>
pCall c (.fn 88 [] []) [v9] h fun v10 h11 =>
pNil a0 fun v12 =>
pFieldA v12 0 fun v13 =>
pStore h11 v13 v10 1 fun h14 =>
some ((.tup []), h14)
theorem S180_eq (c : CV) (a0 a1 : AV) (h : AH) : enterK Tryz.prog NN P180 c 180 [a0, a1] h = S180 c a0 a1 h := by kernel_rfl
def W180 (c : CV) (l : List AV) (h : AH) : R := match l with | [a0, a1] => S180 c a0 a1 h | _ => none
theorem W180_ok : WOk Tryz.prog 180 W180 := by
  intro c l h r e
  unfold W180 at e
  split at e
  · exact ⟨P180, by rw [S180_eq]; exact e⟩
  · cases e
/- (*quietus/levels.Levels).Drop -/
def P181 : Pl := .z
def S181 (_ : CV) (a0 : AV) (h : AH) : R :=
pNil a0 fun v0 =>
pFieldA v0 1 fun v1 =>
pLoad1 h v1 fun v2 =>
pLenS v2 fun v3 =>
pInt .eql v3 (.int .i64 (.ofNat 1)) fun v4 =>
pCond v4 (
some ((.int .i64 (.ofNat 10)), h)) (
pNil a0 fun v5 =>
pFieldA v5 1 fun v6 =>
pLoad1 h v6 fun v7 =>
pNil a0 fun v8 =>
pFieldA v8 1 fun v9 =>
pLoad1 h v9 fun v10 =>
pLenS v10 fun v11 =>
pInt .sub v11 (.int .i64 (.ofNat 1)) fun v12 =>
pSlice h 150 1 v7 none (some v12) fun v13 =>
pNil a0 fun v14 =>
pFieldA v14 1 fun v15 =>
pStore h v15 v13 1 fun h16 =>
some ((.int .i64 (.ofNat 0)), h16))
theorem S181_eq (c : CV) (a0 : AV) (h : AH) : enterK Tryz.prog NN P181 c 181 [a0] h = S181 c a0 h := by kernel_rfl
def W181 (c : CV) (l : List AV) (h : AH) : R := match l with | [a0] => S181 c a0 h | _ => none
theorem W181_ok : WOk Tryz.prog 181 W181 := by
  intro c l h r e
  unfold W181 at e
  split at e
  · exact ⟨P181, by rw [S181_eq]; exact e⟩
  · cases e
/- internal/strconv.small -/
def P182 : Pl := .z
def S182 (_ : CV) (a0 : AV) (h : AH) : R :=
pInt .lss a0 (.int .i64 (.ofNat 10)) fun v0 =>
pCond v0 (
pInt .add a0 (.int .i64 (.ofNat 1)) fun v1 =>
pSliceS (.str [48, 49, 50, 51, 52, 53, 54, 55, 56, 57, 97, 98, 99, 100, 101, 102, 103, 104, 105, 106, 107, 108, 109, 110, 111, 112, 113, 114, 115, 116, 117, 118, 119, 120, 121, 122]) (some a0) (some v1) fun v2 =>
some (v2, h)) (
pInt .mul a0 (.int .i64 (.ofNat 2)) fun v3 =>
pInt .mul a0 (.int .i64 (.ofNat 2)) fun v4 =>
pInt .add v4 (.int .i64 (.ofNat 2)) fun v5 =>
pSliceS (.str [48, 48, 48, 49, 48, 50, 48, 51, 48, 52, 48, 53, 48, 54, 48, 55, 48, 56, 48, 57, 49, 48, 49, 49, 49, 50, 49, 51, 49, 52, 49, 53, 49, 54, 49, 55, 49, 56, 49, 57, 50, 48, 50, 49, 50, 50, 50, 51, 50, 52, 50, 53, 50, 54, 50, 55, 50, 56, 50, 57, 51, 48, 51, 49, 51, 50, 51, 51, 51, 52, 51, 53, 51, 54, 51, 55, 51, 56, 51, 57, 52, 48, 52, 49, 52, 50, 52, 51, 52, 52, 52, 53, 52, 54, 52, 55, 52, 56, 52, 57, 53, 48, 53, 49, 53, 50, 53, 51, 53, 52, 53, 53, 53, 54, 53, 55, 53, 56, 53, 57, 54, 48, 54, 49, 54, 50, 54, 51, 54, 52, 54, 53, 54, 54, 54, 55, 54, 56, 54, 57, 55, 48, 55, 49, 55, 50, 55, 51, 55, 52, 55, 53, 55, 54, 55, 55, 55, 56, 55, 57, 56, 48, 56, 49, 56, 50, 56, 51, 56, 52, 56, 53, 56, 54, 56, 55, 56, 56, 56, 57, 57, 48, 57, 49, 57, 50, 57, 51, 57, 52, 57, 53, 57, 54, 57, 55, 57, 56, 57, 57]) (some v3) (some v5) fun v6 =>
some (v6, h))
theorem S182_eq (c : CV) (a0 : AV) (h : AH) : enterK Tryz.prog NN P182 c 182 [a0] h = S182 c a0 h := by kernel_rfl
def W182 (c : CV) (l : List AV) (h : AH) : R := match l with | [a0] => S182 c a0 h | _ => none
theorem W182_ok : WOk Tryz.prog 182 W182 := by
  intro c l h r e
  unfold W182 at e
  split at e
  · exact ⟨P182, by rw [S182_eq]; exact e⟩
  · cases e
/- internal/strconv.numDigits -/
def P183 : Pl := .z
def S183 (c : CV) (a0 : AV) (h : AH) : R :=
pCall c (.fn 213 [] []) [a0] h fun v0 h1 =>
pCall c (.fn 212 [] []) [v0] h1 fun _ _ =>
none /- op -/
theorem S183_eq (c : CV) (a0 : AV) (h : AH) : enterK Tryz.prog NN P183 c 183 [a0] h = S183 c a0 h := by kernel_rfl
def W183 (c : CV) (l : List AV) (h : AH) : R := match l with | [a0] => S183 c a0 h | _ => none
theorem W183_ok : WOk Tryz.prog 183 W183 := by
  intro c l h r e
  unfold W183 at e
  split at e
  · exact ⟨P183, by rw [S183_eq]; exact e⟩
  · cases e
/- internal/strconv.formatBase10 -/
def P184 : Pl := (.n none .z (.n none (.n none (.n (some [4, 1, 0]) .z .z) .z) (.n none .z (.n (some [12, 4, 0]) .z (.n (some [12, 4, 0]) .z .z)))))
def S184 (_ : CV) (a0 a1 : AV) (h : AH) : R :=
pLenS a0 fun v0 =>
loopC (σ := AV × AV × AV × Unit) NN (fun i4 s1 h2 d3 =>
pInt .geq s1.1 (.int .i64 (.ofNat 8)) fun v5 =>
pCond v5 (
pInt .rem s1.2.1 (.int .u64 (.ofNat 100000000)) fun v6 =>
pConvI .u32 v6 fun v7 =>
pInt .quo s1.2.1 (.int .u64 (.ofNat 100000000)) fun v8 =>
pInt .quo v7 (.int .u32 (.ofNat 10000)) fun v9 =>
pInt .rem v7 (.int .u32 (.ofNat 10000)) fun v10 =>
pInt .quo v10 (.int .u32 (.ofNat 100)) fun v11 =>
pInt .mul v11 (.int .u32 (.ofNat 2)) fun v12 =>
pInt .rem v10 (.int .u32 (.ofNat 100)) fun v13 =>
pInt .mul v13 (.int .u32 (.ofNat 2)) fun v14 =>
pInt .quo v9 (.int .u32 (.ofNat 100)) fun v15 =>
pInt .mul v15 (.int .u32 (.ofNat 2)) fun v16 =>
pInt .rem v9 (.int .u32 (.ofNat 100)) fun v17 =>
pInt .mul v17 (.int .u32 (.ofNat 2)) fun v18 =>
pInt .sub s1.1 (.int .i64 (.ofNat 1)) fun v19 =>
pInt .sub s1.1 (.int .i64 (.ofNat 2)) fun v20 =>
pInt .add v14 (.int .u32 (.ofNat 1)) fun v21 =>
pIdxStr (.str [48, 48, 48, 49, 48, 50, 48, 51, 48, 52, 48, 53, 48, 54, 48, 55, 48, 56, 48, 57, 49, 48, 49, 49, 49, 50, 49, 51, 49, 52, 49, 53, 49, 54, 49, 55, 49, 56, 49, 57, 50, 48, 50, 49, 50, 50, 50, 51, 50, 52, 50, 53, 50, 54, 50, 55, 50, 56, 50, 57, 51, 48, 51, 49, 51, 50, 51, 51, 51, 52, 51, 53, 51, 54, 51, 55, 51, 56, 51, 57, 52, 48, 52, 49, 52, 50, 52, 51, 52, 52, 52, 53, 52, 54, 52, 55, 52, 56, 52, 57, 53, 48, 53, 49, 53, 50, 53, 51, 53, 52, 53, 53, 53, 54, 53, 55, 53, 56, 53, 57, 54, 48, 54, 49, 54, 50, 54, 51, 54, 52, 54, 53, 54, 54, 54, 55, 54, 56, 54, 57, 55, 48, 55, 49, 55, 50, 55, 51, 55, 52, 55, 53, 55, 54, 55, 55, 55, 56, 55, 57, 56, 48, 56, 49, 56, 50, 56, 51, 56, 52, 56, 53, 56, 54, 56, 55, 56, 56, 56, 57, 57, 48, 57, 49, 57, 50, 57, 51, 57, 52, 57, 53, 57, 54, 57, 55, 57, 56, 57, 57]) v21 fun v22 =>
pIdxStr (.str [48, 48, 48, 49, 48, 50, 48, 51, 48, 52, 48, 53, 48, 54, 48, 55, 48, 56, 48, 57, 49, 48, 49, 49, 49, 50, 49, 51, 49, 52, 49, 53, 49, 54, 49, 55, 49, 56, 49, 57, 50, 48, 50, 49, 50, 50, 50, 51, 50, 52, 50, 53, 50, 54, 50, 55, 50, 56, 50, 57, 51, 48, 51, 49, 51, 50, 51, 51, 51, 52, 51, 53, 51, 54, 51, 55, 51, 56, 51, 57, 52, 48, 52, 49, 52, 50, 52, 51, 52, 52, 52, 53, 52, 54, 52, 55, 52, 56, 52, 57, 53, 48, 53, 49, 53, 50, 53, 51, 53, 52, 53, 53, 53, 54, 53, 55, 53, 56, 53, 57, 54, 48, 54, 49, 54, 50, 54, 51, 54, 52, 54, 53, 54, 54, 54, 55, 54, 56, 54, 57, 55, 48, 55, 49, 55, 50, 55, 51, 55, 52, 55, 53, 55, 54, 55, 55, 55, 56, 55, 57, 56, 48, 56, 49, 56, 50, 56, 51, 56, 52, 56, 53, 56, 54, 56, 55, 56, 56, 56, 57, 57, 48, 57, 49, 57, 50, 57, 51, 57, 52, 57, 53, 57, 54, 57, 55, 57, 56, 57, 57]) v14 fun v23 =>
pIdxS s1.2.2.1 v19 1 fun v24 =>
pStore h2 v24 v22 1 fun h25 =>
pIdxS s1.2.2.1 v20 1 fun v26 =>
pStore h25 v26 v23 1 fun h27 =>
pInt .sub s1.1 (.int .i64 (.ofNat 3)) fun v28 =>
pInt .sub s1.1 (.int .i64 (.ofNat 4)) fun v29 =>
pInt .add v12 (.int .u32 (.ofNat 1)) fun v30 =>
pIdxStr (.str [48, 48, 48, 49, 48, 50, 48, 51, 48, 52, 48, 53, 48, 54, 48, 55, 48, 56, 48, 57, 49, 48, 49, 49, 49, 50, 49, 51, 49, 52, 49, 53, 49, 54, 49, 55, 49, 56, 49, 57, 50, 48, 50, 49, 50, 50, 50, 51, 50, 52, 50, 53, 50, 54, 50, 55, 50, 56, 50, 57, 51, 48, 51, 49, 51, 50, 51, 51, 51, 52, 51, 53, 51, 54, 51, 55, 51, 56, 51, 57, 52, 48, 52, 49, 52, 50, 52, 51, 52, 52, 52, 53, 52, 54, 52, 55, 52, 56, 52, 57, 53, 48, 53, 49, 53, 50, 53, 51, 53, 52, 53, 53, 53, 54, 53, 55, 53, 56, 53, 57, 54, 48, 54, 49, 54, 50, 54, 51, 54, 52, 54, 53, 54, 54, 54, 55, 54, 56, 54, 57, 55, 48, 55, 49, 55, 50, 55, 51, 55, 52, 55, 53, 55, 54, 55, 55, 55, 56, 55, 57, 56, 48, 56, 49, 56, 50, 56, 51, 56, 52, 56, 53, 56, 54, 56, 55, 56, 56, 56, 57, 57, 48, 57, 49, 57, 50, 57, 51, 57, 52, 57, 53, 57, 54, 57, 55, 57, 56, 57, 57]) v30 fun v31 =>
pIdxStr (.str [48, 48, 48, 49, 48, 50, 48, 51, 48, 52, 48, 53, 48, 54, 48, 55, 48, 56, 48, 57, 49, 48, 49, 49, 49, 50, 49, 51, 49, 52, 49, 53, 49, 54, 49, 55, 49, 56, 49, 57, 50, 48, 50, 49, 50, 50, 50, 51, 50, 52, 50, 53, 50, 54, 50, 55, 50, 56, 50, 57, 51, 48, 51, 49, 51, 50, 51, 51, 51, 52, 51, 53, 51, 54, 51, 55, 51, 56, 51, 57, 52, 48, 52, 49, 52, 50, 52, 51, 52, 52, 52, 53, 52, 54, 52, 55, 52, 56, 52, 57, 53, 48, 53, 49, 53, 50, 53, 51, 53, 52, 53, 53, 53, 54, 53, 55, 53, 56, 53, 57, 54, 48, 54, 49, 54, 50, 54, 51, 54, 52, 54, 53, 54, 54, 54, 55, 54, 56, 54, 57, 55, 48, 55, 49, 55, 50, 55, 51, 55, 52, 55, 53, 55, 54, 55, 55, 55, 56, 55, 57, 56, 48, 56, 49, 56, 50, 56, 51, 56, 52, 56, 53, 56, 54, 56, 55, 56, 56, 56, 57, 57, 48, 57, 49, 57, 50, 57, 51, 57, 52, 57, 53, 57, 54, 57, 55, 57, 56, 57, 57]) v12 fun v32 =>
pIdxS s1.2.2.1 v28 1 fun v33 =>
pStore h27 v33 v31 1 fun h34 =>
pIdxS s1.2.2.1 v29 1 fun v35 =>
pStore h34 v35 v32 1 fun h36 =>
pInt .sub s1.1 (.int .i64 (.ofNat 5)) fun v37 =>
pInt .sub s1.1 (.int .i64 (.ofNat 6)) fun v38 =>
pInt .add v18 (.int .u32 (.ofNat 1)) fun v39 =>
pIdxStr (.str [48, 48, 48, 49, 48, 50, 48, 51, 48, 52, 48, 53, 48, 54, 48, 55, 48, 56, 48, 57, 49, 48, 49, 49, 49, 50, 49, 51, 49, 52, 49, 53, 49, 54, 49, 55, 49, 56, 49, 57, 50, 48, 50, 49, 50, 50, 50, 51, 50, 52, 50, 53, 50, 54, 50, 55, 50, 56, 50, 57, 51, 48, 51, 49, 51, 50, 51, 51, 51, 52, 51, 53, 51, 54, 51, 55, 51, 56, 51, 57, 52, 48, 52, 49, 52, 50, 52, 51, 52, 52, 52, 53, 52, 54, 52, 55, 52, 56, 52, 57, 53, 48, 53, 49, 53, 50, 53, 51, 53, 52, 53, 53, 53, 54, 53, 55, 53, 56, 53, 57, 54, 48, 54, 49, 54, 50, 54, 51, 54, 52, 54, 53, 54, 54, 54, 55, 54, 56, 54, 57, 55, 48, 55, 49, 55, 50, 55, 51, 55, 52, 55, 53, 55, 54, 55, 55, 55, 56, 55, 57, 56, 48, 56, 49, 56, 50, 56, 51, 56, 52, 56, 53, 56, 54, 56, 55, 56, 56, 56, 57, 57, 48, 57, 49, 57, 50, 57, 51, 57, 52, 57, 53, 57, 54, 57, 55, 57, 56, 57, 57]) v39 fun v40 =>
pIdxStr (.str [48, 48, 48, 49, 48, 50, 48, 51, 48, 52, 48, 53, 48, 54, 48, 55, 48, 56, 48, 57, 49, 48, 49, 49, 49, 50, 49, 51, 49, 52, 49, 53, 49, 54, 49, 55, 49, 56, 49, 57, 50, 48, 50, 49, 50, 50, 50, 51, 50, 52, 50, 53, 50, 54, 50, 55, 50, 56, 50, 57, 51, 48, 51, 49, 51, 50, 51, 51, 51, 52, 51, 53, 51, 54, 51, 55, 51, 56, 51, 57, 52, 48, 52, 49, 52, 50, 52, 51, 52, 52, 52, 53, 52, 54, 52, 55, 52, 56, 52, 57, 53, 48, 53, 49, 53, 50, 53, 51, 53, 52, 53, 53, 53, 54, 53, 55, 53, 56, 53, 57, 54, 48, 54, 49, 54, 50, 54, 51, 54, 52, 54, 53, 54, 54, 54, 55, 54, 56, 54, 57, 55, 48, 55, 49, 55, 50, 55, 51, 55, 52, 55, 53, 55, 54, 55, 55, 55, 56, 55, 57, 56, 48, 56, 49, 56, 50, 56, 51, 56, 52, 56, 53, 56, 54, 56, 55, 56, 56, 56, 57, 57, 48, 57, 49, 57, 50, 57, 51, 57, 52, 57, 53, 57, 54, 57, 55, 57, 56, 57, 57]) v18 fun v41 =>
pIdxS s1.2.2.1 v37 1 fun v42 =>
pStore h36 v42 v40 1 fun h43 =>
pIdxS s1.2.2.1 v38 1 fun v44 =>
pStore h43 v44 v41 1 fun h45 =>
pInt .sub s1.1 (.int .i64 (.ofNat 7)) fun v46 =>
pInt .sub s1.1 (.int .i64 (.ofNat 8)) fun v47 =>
pInt .add v16 (.int .u32 (.ofNat 1)) fun v48 =>
pIdxStr (.str [48, 48, 48, 49, 48, 50, 48, 51, 48, 52, 48, 53, 48, 54, 48, 55, 48, 56, 48, 57, 49, 48, 49, 49, 49, 50, 49, 51, 49, 52, 49, 53, 49, 54, 49, 55, 49, 56, 49, 57, 50, 48, 50, 49, 50, 50, 50, 51, 50, 52, 50, 53, 50, 54, 50, 55, 50, 56, 50, 57, 51, 48, 51, 49, 51, 50, 51, 51, 51, 52, 51, 53, 51, 54, 51, 55, 51, 56, 51, 57, 52, 48, 52, 49, 52, 50, 52, 51, 52, 52, 52, 53, 52, 54, 52, 55, 52, 56, 52, 57, 53, 48, 53, 49, 53, 50, 53, 51, 53, 52, 53, 53, 53, 54, 53, 55, 53, 56, 53, 57, 54, 48, 54, 49, 54, 50, 54, 51, 54, 52, 54, 53, 54, 54, 54, 55, 54, 56, 54, 57, 55, 48, 55, 49, 55, 50, 55, 51, 55, 52, 55, 53, 55, 54, 55, 55, 55, 56, 55, 57, 56, 48, 56, 49, 56, 50, 56, 51, 56, 52, 56, 53, 56, 54, 56, 55, 56, 56, 56, 57, 57, 48, 57, 49, 57, 50, 57, 51, 57, 52, 57, 53, 57, 54, 57, 55, 57, 56, 57, 57]) v48 fun v49 =>
pIdxStr (.str [48, 48, 48, 49, 48, 50, 48, 51, 48, 52, 48, 53, 48, 54, 48, 55, 48, 56, 48, 57, 49, 48, 49, 49, 49, 50, 49, 51, 49, 52, 49, 53, 49, 54, 49, 55, 49, 56, 49, 57, 50, 48, 50, 49, 50, 50, 50, 51, 50, 52, 50, 53, 50, 54, 50, 55, 50, 56, 50, 57, 51, 48, 51, 49, 51, 50, 51, 51, 51, 52, 51, 53, 51, 54, 51, 55, 51, 56, 51, 57, 52, 48, 52, 49, 52, 50, 52, 51, 52, 52, 52, 53, 52, 54, 52, 55, 52, 56, 52, 57, 53, 48, 53, 49, 53, 50, 53, 51, 53, 52, 53, 53, 53, 54, 53, 55, 53, 56, 53, 57, 54, 48, 54, 49, 54, 50, 54, 51, 54, 52, 54, 53, 54, 54, 54, 55, 54, 56, 54, 57, 55, 48, 55, 49, 55, 50, 55, 51, 55, 52, 55, 53, 55, 54, 55, 55, 55, 56, 55, 57, 56, 48, 56, 49, 56, 50, 56, 51, 56, 52, 56, 53, 56, 54, 56, 55, 56, 56, 56, 57, 57, 48, 57, 49, 57, 50, 57, 51, 57, 52, 57, 53, 57, 54, 57, 55, 57, 56, 57, 57]) v16 fun v50 =>
pIdxS s1.2.2.1 v46 1 fun v51 =>
pStore h45 v51 v49 1 fun h52 =>
pIdxS s1.2.2.1 v47 1 fun v53 =>
pStore h52 v53 v50 1 fun h54 =>
pInt .sub s1.1 (.int .i64 (.ofNat 8)) fun v55 =>
i4 (v55, v8, s1.2.2.1, ()) h54 d3) (
pConvI .u32 s1.2.1 fun v56 =>
joinC (α := AV × AV × AV × Unit → AH → List Nat → R) (fun s57 h58 d59 =>
joinC (α := AV × AV × AV × Unit → AH → List Nat → R) (fun s61 h62 d63 =>
pInt .gtr s61.2.1 (.int .i64 (.ofNat 0)) fun v65 =>
pCond v65 (
pInt .add (.int .u32 (.ofNat 48)) s61.1 fun v66 =>
pConvI .u8 v66 fun v67 =>
pIdxS s61.2.2.1 (.int .i64 (.ofNat 0)) 1 fun v68 =>
pStore h62 v68 v67 1 fun h69 =>
pLeave d63 h69 fun h70 =>
some ((.tup []), h70)) (
pLeave d63 h62 fun h71 =>
some ((.tup []), h71))) fun j64 =>
pInt .geq s57.2.1 (.int .i64 (.ofNat 2)) fun v72 =>
pCond v72 (
pInt .rem s57.1 (.int .u32 (.ofNat 100)) fun v73 =>
pInt .mul v73 (.int .u32 (.ofNat 2)) fun v74 =>
pInt .quo s57.1 (.int .u32 (.ofNat 100)) fun v75 =>
pInt .sub s57.2.1 (.int .i64 (.ofNat 1)) fun v76 =>
pInt .sub s57.2.1 (.int .i64 (.ofNat 2)) fun v77 =>
pInt .add v74 (.int .u32 (.ofNat 1)) fun v78 =>
pIdxStr (.str [48, 48, 48, 49, 48, 50, 48, 51, 48, 52, 48, 53, 48, 54, 48, 55, 48, 56, 48, 57, 49, 48, 49, 49, 49, 50, 49, 51, 49, 52, 49, 53, 49, 54, 49, 55, 49, 56, 49, 57, 50, 48, 50, 49, 50, 50, 50, 51, 50, 52, 50, 53, 50, 54, 50, 55, 50, 56, 50, 57, 51, 48, 51, 49, 51, 50, 51, 51, 51, 52, 51, 53, 51, 54, 51, 55, 51, 56, 51, 57, 52, 48, 52, 49, 52, 50, 52, 51, 52, 52, 52, 53, 52, 54, 52, 55, 52, 56, 52, 57, 53, 48, 53, 49, 53, 50, 53, 51, 53, 52, 53, 53, 53, 54, 53, 55, 53, 56, 53, 57, 54, 48, 54, 49, 54, 50, 54, 51, 54, 52, 54, 53, 54, 54, 54, 55, 54, 56, 54, 57, 55, 48, 55, 49, 55, 50, 55, 51, 55, 52, 55, 53, 55, 54, 55, 55, 55, 56, 55, 57, 56, 48, 56, 49, 56, 50, 56, 51, 56, 52, 56, 53, 56, 54, 56, 55, 56, 56, 56, 57, 57, 48, 57, 49, 57, 50, 57, 51, 57, 52, 57, 53, 57, 54, 57, 55, 57, 56, 57, 57]) v78 fun v79 =>
pIdxStr (.str [48, 48, 48, 49, 48, 50, 48, 51, 48, 52, 48, 53, 48, 54, 48, 55, 48, 56, 48, 57, 49, 48, 49, 49, 49, 50, 49, 51, 49, 52, 49, 53, 49, 54, 49, 55, 49, 56, 49, 57, 50, 48, 50, 49, 50, 50, 50, 51, 50, 52, 50, 53, 50, 54, 50, 55, 50, 56, 50, 57, 51, 48, 51, 49, 51, 50, 51, 51, 51, 52, 51, 53, 51, 54, 51, 55, 51, 56, 51, 57, 52, 48, 52, 49, 52, 50, 52, 51, 52, 52, 52, 53, 52, 54, 52, 55, 52, 56, 52, 57, 53, 48, 53, 49, 53, 50, 53, 51, 53, 52, 53, 53, 53, 54, 53, 55, 53, 56, 53, 57, 54, 48, 54, 49, 54, 50, 54, 51, 54, 52, 54, 53, 54, 54, 54, 55, 54, 56, 54, 57, 55, 48, 55, 49, 55, 50, 55, 51, 55, 52, 55, 53, 55, 54, 55, 55, 55, 56, 55, 57, 56, 48, 56, 49, 56, 50, 56, 51, 56, 52, 56, 53, 56, 54, 56, 55, 56, 56, 56, 57, 57, 48, 57, 49, 57, 50, 57, 51, 57, 52, 57, 53, 57, 54, 57, 55, 57, 56, 57, 57]) v74 fun v80 =>
pIdxS s57.2.2.1 v76 1 fun v81 =>
pStore h58 v81 v79 1 fun h82 =>
pIdxS s57.2.2.1 v77 1 fun v83 =>
pStore h82 v83 v80 1 fun h84 =>
pInt .sub s57.2.1 (.int .i64 (.ofNat 2)) fun v85 =>
j64 (v75, v85, s57.2.2.1, ()) h84 d59) (
j64 (s57.1, s57.2.1, s57.2.2.1, ()) h58 d59)) fun j60 =>
pInt .geq s1.1 (.int .i64 (.ofNat 4)) fun v86 =>
pCond v86 (
pInt .rem v56 (.int .u32 (.ofNat 10000)) fun v87 =>
pInt .quo v56 (.int .u32 (.ofNat 10000)) fun v88 =>
pInt .quo v87 (.int .u32 (.ofNat 100)) fun v89 =>
pInt .mul v89 (.int .u32 (.ofNat 2)) fun v90 =>
pInt .rem v87 (.int .u32 (.ofNat 100)) fun v91 =>
pInt .mul v91 (.int .u32 (.ofNat 2)) fun v92 =>
pInt .sub s1.1 (.int .i64 (.ofNat 1)) fun v93 =>
pInt .sub s1.1 (.int .i64 (.ofNat 2)) fun v94 =>
pInt .add v92 (.int .u32 (.ofNat 1)) fun v95 =>
pIdxStr (.str [48, 48, 48, 49, 48, 50, 48, 51, 48, 52, 48, 53, 48, 54, 48, 55, 48, 56, 48, 57, 49, 48, 49, 49, 49, 50, 49, 51, 49, 52, 49, 53, 49, 54, 49, 55, 49, 56, 49, 57, 50, 48, 50, 49, 50, 50, 50, 51, 50, 52, 50, 53, 50, 54, 50, 55, 50, 56, 50, 57, 51, 48, 51, 49, 51, 50, 51, 51, 51, 52, 51, 53, 51, 54, 51, 55, 51, 56, 51, 57, 52, 48, 52, 49, 52, 50, 52, 51, 52, 52, 52, 53, 52, 54, 52, 55, 52, 56, 52, 57, 53, 48, 53, 49, 53, 50, 53, 51, 53, 52, 53, 53, 53, 54, 53, 55, 53, 56, 53, 57, 54, 48, 54, 49, 54, 50, 54, 51, 54, 52, 54, 53, 54, 54, 54, 55, 54, 56, 54, 57, 55, 48, 55, 49, 55, 50, 55, 51, 55, 52, 55, 53, 55, 54, 55, 55, 55, 56, 55, 57, 56, 48, 56, 49, 56, 50, 56, 51, 56, 52, 56, 53, 56, 54, 56, 55, 56, 56, 56, 57, 57, 48, 57, 49, 57, 50, 57, 51, 57, 52, 57, 53, 57, 54, 57, 55, 57, 56, 57, 57]) v95 fun v96 =>
pIdxStr (.str [48, 48, 48, 49, 48, 50, 48, 51, 48, 52, 48, 53, 48, 54, 48, 55, 48, 56, 48, 57, 49, 48, 49, 49, 49, 50, 49, 51, 49, 52, 49, 53, 49, 54, 49, 55, 49, 56, 49, 57, 50, 48, 50, 49, 50, 50, 50, 51, 50, 52, 50, 53, 50, 54, 50, 55, 50, 56, 50, 57, 51, 48, 51, 49, 51, 50, 51, 51, 51, 52, 51, 53, 51, 54, 51, 55, 51, 56, 51, 57, 52, 48, 52, 49, 52, 50, 52, 51, 52, 52, 52, 53, 52, 54, 52, 55, 52, 56, 52, 57, 53, 48, 53, 49, 53, 50, 53, 51, 53, 52, 53, 53, 53, 54, 53, 55, 53, 56, 53, 57, 54, 48, 54, 49, 54, 50, 54, 51, 54, 52, 54, 53, 54, 54, 54, 55, 54, 56, 54, 57, 55, 48, 55, 49, 55, 50, 55, 51, 55, 52, 55, 53, 55, 54, 55, 55, 55, 56, 55, 57, 56, 48, 56, 49, 56, 50, 56, 51, 56, 52, 56, 53, 56, 54, 56, 55, 56, 56, 56, 57, 57, 48, 57, 49, 57, 50, 57, 51, 57, 52, 57, 53, 57, 54, 57, 55, 57, 56, 57, 57]) v92 fun v97 =>
pIdxS s1.2.2.1 v93 1 fun v98 =>
pStore h2 v98 v96 1 fun h99 =>
pIdxS s1.2.2.1 v94 1 fun v100 =>
pStore h99 v100 v97 1 fun h101 =>
pInt .sub s1.1 (.int .i64 (.ofNat 3)) fun v102 =>
pInt .sub s1.1 (.int .i64 (.ofNat 4)) fun v103 =>
pInt .add v90 (.int .u32 (.ofNat 1)) fun v104 =>
pIdxStr (.str [48, 48, 48, 49, 48, 50, 48, 51, 48, 52, 48, 53, 48, 54, 48, 55, 48, 56, 48, 57, 49, 48, 49, 49, 49, 50, 49, 51, 49, 52, 49, 53, 49, 54, 49, 55, 49, 56, 49, 57, 50, 48, 50, 49, 50, 50, 50, 51, 50, 52, 50, 53, 50, 54, 50, 55, 50, 56, 50, 57, 51, 48, 51, 49, 51, 50, 51, 51, 51, 52, 51, 53, 51, 54, 51, 55, 51, 56, 51, 57, 52, 48, 52, 49, 52, 50, 52, 51, 52, 52, 52, 53, 52, 54, 52, 55, 52, 56, 52, 57, 53, 48, 53, 49, 53, 50, 53, 51, 53, 52, 53, 53, 53, 54, 53, 55, 53, 56, 53, 57, 54, 48, 54, 49, 54, 50, 54, 51, 54, 52, 54, 53, 54, 54, 54, 55, 54, 56, 54, 57, 55, 48, 55, 49, 55, 50, 55, 51, 55, 52, 55, 53, 55, 54, 55, 55, 55, 56, 55, 57, 56, 48, 56, 49, 56, 50, 56, 51, 56, 52, 56, 53, 56, 54, 56, 55, 56, 56, 56, 57, 57, 48, 57, 49, 57, 50, 57, 51, 57, 52, 57, 53, 57, 54, 57, 55, 57, 56, 57, 57]) v104 fun v105 =>
pIdxStr (.str [48, 48, 48, 49, 48, 50, 48, 51, 48, 52, 48, 53, 48, 54, 48, 55, 48, 56, 48, 57, 49, 48, 49, 49, 49, 50, 49, 51, 49, 52, 49, 53, 49, 54, 49, 55, 49, 56, 49, 57, 50, 48, 50, 49, 50, 50, 50, 51, 50, 52, 50, 53, 50, 54, 50, 55, 50, 56, 50, 57, 51, 48, 51, 49, 51, 50, 51, 51, 51, 52, 51, 53, 51, 54, 51, 55, 51, 56, 51, 57, 52, 48, 52, 49, 52, 50, 52, 51, 52, 52, 52, 53, 52, 54, 52, 55, 52, 56, 52, 57, 53, 48, 53, 49, 53, 50, 53, 51, 53, 52, 53, 53, 53, 54, 53, 55, 53, 56, 53, 57, 54, 48, 54, 49, 54, 50, 54, 51, 54, 52, 54, 53, 54, 54, 54, 55, 54, 56, 54, 57, 55, 48, 55, 49, 55, 50, 55, 51, 55, 52, 55, 53, 55, 54, 55, 55, 55, 56, 55, 57, 56, 48, 56, 49, 56, 50, 56, 51, 56, 52, 56, 53, 56, 54, 56, 55, 56, 56, 56, 57, 57, 48, 57, 49, 57, 50, 57, 51, 57, 52, 57, 53, 57, 54, 57, 55, 57, 56, 57, 57]) v90 fun v106 =>
pIdxS s1.2.2.1 v102 1 fun v107 =>
pStore h101 v107 v105 1 fun h108 =>
pIdxS s1.2.2.1 v103 1 fun v109 =>
pStore h108 v109 v106 1 fun h110 =>
pInt .sub s1.1 (.int .i64 (.ofNat 4)) fun v111 =>
j60 (v88, v111, s1.2.2.1, ()) h110 d3) (
j60 (v56, s1.1, s1.2.2.1, ()) h2 d3))) (v0, a1, a0, ()) h []
theorem S184_eq (c : CV) (a0 a1 : AV) (h : AH) : enterK Tryz.prog NN P184 c 184 [a0, a1] h = S184 c a0 a1 h := by kernel_rfl
def W184 (c : CV) (l : List AV) (h : AH) : R := match l with | [a0, a1] => S184 c a0 a1 h | _ => none
theorem W184_ok : WOk Tryz.prog 184 W184 := by
  intro c l h r e
  unfold W184 at e
  split at e
  · exact ⟨P184, by rw [S184_eq]; exact e⟩
  · cases e
/- internal/strconv.formatBits -/
def P185 : Pl := (.n none .z (.n (some [11, 10, 4, 3, 2, 1, 0]) (.n none (.r [[23, 21, 11, 10, 4, 3, 2, 1, 0], [27, 25, 11, 10, 4, 3, 2, 1, 0]]) .z) (.n none .z (.n none .z (.n (some [13, 12, 11, 10, 4, 3, 2, 1, 0]) .z (.n (some [13, 12, 11, 10, 4, 3, 0]) (.n none .z (.n none (.n none .z (.n none .z (.n none .z (.n none (.n none (.n (some [16, 15, 14, 13, 12, 11, 10, 4, 3, 1, 0]) .z .z) .z) .z)))) (.n none .z (.n none (.n none (.n (some [17, 13, 12, 11, 10, 4, 3, 1, 0]) .z .z) .z) .z)))) (.n (some [13, 12, 11, 10, 4, 0]) .z .z)))))))
def S185 (c : CV) (a0 a1 a2 a3 a4 : AV) (h : AH) : R :=
joinC (α := AV × AV × AV × AV × AV × AV × AV × Unit → AH → List Nat → R) (fun s0 h1 d2 =>
pBox h1 260 (.agg [(.int .u8 (.ofNat 0)), (.int .u8 (.ofNat 0)), (.int .u8 (.ofNat 0)), (.int .u8 (.ofNat 0)), (.int .u8 (.ofNat 0)), (.int .u8 (.ofNat 0)), (.int .u8 (.ofNat 0)), (.int .u8 (.ofNat 0)), (.int .u8 (.ofNat 0)), (.int .u8 (.ofNat 0)), (.int .u8 (.ofNat 0)), (.int .u8 (.ofNat 0)), (.int .u8 (.ofNat 0)), (.int .u8 (.ofNat 0)), (.int .u8 (.ofNat 0)), (.int .u8 (.ofNat 0)), (.int .u8 (.ofNat 0)), (.int .u8 (.ofNat 0)), (.int .u8 (.ofNat 0)), (.int .u8 (.ofNat 0)), (.int .u8 (.ofNat 0)), (.int .u8 (.ofNat 0)), (.int .u8 (.ofNat 0)), (.int .u8 (.ofNat 0)), (.int .u8 (.ofNat 0)), (.int .u8 (.ofNat 0)), (.int .u8 (.ofNat 0)), (.int .u8 (.ofNat 0)), (.int .u8 (.ofNat 0)), (.int .u8 (.ofNat 0)), (.int .u8 (.ofNat 0)), (.int .u8 (.ofNat 0)), (.int .u8 (.ofNat 0)), (.int .u8 (.ofNat 0)), (.int .u8 (.ofNat 0)), (.int .u8 (.ofNat 0)), (.int .u8 (.ofNat 0)), (.int .u8 (.ofNat 0)), (.int .u8 (.ofNat 0)), (.int .u8 (.ofNat 0)), (.int .u8 (.ofNat 0)), (.int .u8 (.ofNat 0)), (.int .u8 (.ofNat 0)), (.int .u8 (.ofNat 0)), (.int .u8 (.ofNat 0)), (.int .u8 (.ofNat 0)), (.int .u8 (.ofNat 0)), (.int .u8 (.ofNat 0)), (.int .u8 (.ofNat 0)), (.int .u8 (.ofNat 0)), (.int .u8 (.ofNat 0)), (.int .u8 (.ofNat 0)), (.int .u8 (.ofNat 0)), (.int .u8 (.ofNat 0)), (.int .u8 (.ofNat 0)), (.int .u8 (.ofNat 0)), (.int .u8 (.ofNat 0)), (.int .u8 (.ofNat 0)), (.int .u8 (.ofNat 0)), (.int .u8 (.ofNat 0)), (.int .u8 (.ofNat 0)), (.int .u8 (.ofNat 0)), (.int .u8 (.ofNat 0)), (.int .u8 (.ofNat 0)), (.int .u8 (.ofNat 0))]) fun v4 h5 =>
joinC (α := AV × AV × AV × AV × AV × AV × AV × AV × AV × Unit → AH → List Nat → R) (fun s6 h7 d8 =>
joinC (α := AV × AV × AV × AV × AV × AV × AV × Unit → AH → List Nat → R) (fun s10 h11 d12 =>
joinC (α := AV × AV × AV × AV × AV × AV × Unit → AH → List Nat → R) (fun s14 h15 d16 =>
pCond s14.2.2.2.2.1 (
pSliceP 65 1 s14.2.1 (some s14.1) none fun v18 =>
pAppend h15 5 1 s14.2.2.2.2.2.1 v18 fun v19 h20 =>
pLeave d16 h20 fun h21 =>
some ((.tup [v19, s14.2.2.1]), h21)) (
pSliceP 65 1 s14.2.1 (some s14.1) none fun v22 =>
pB2S h15 v22 fun v23 =>
pLeave d16 h15 fun h24 =>
some ((.tup [s14.2.2.2.1, v23]), h24))) fun j17 =>
pCond s10.2.2.2.2.2.1 (
pInt .sub s10.1 (.int .i64 (.ofNat 1)) fun v25 =>
pIdxP s10.2.1 v25 65 1 fun v26 =>
pStore h11 v26 (.int .u8 (.ofNat 45)) 1 fun h27 =>
j17 (v25, s10.2.1, s10.2.2.1, s10.2.2.2.1, s10.2.2.2.2.1, s10.2.2.2.2.2.2.1, ()) h27 d12) (
j17 (s10.1, s10.2.1, s10.2.2.1, s10.2.2.2.1, s10.2.2.2.2.1, s10.2.2.2.2.2.2.1, ()) h11 d12)) fun j13 =>
pCall c (.fn 215 [] []) [s6.2.2.2.2.2.2.1] h7 fun v28 h29 =>
pCond v28 (
pConvI .u64 s6.2.2.2.2.2.2.1 fun v30 =>
pCall c (.fn 216 [] []) [v30] h29 fun v31 h32 =>
pConvI .u64 v31 fun v33 =>
pConvI .u64 s6.2.2.2.2.2.2.1 fun v34 =>
pConvI .u64 s6.2.2.2.2.2.2.1 fun v35 =>
pInt .sub v35 (.int .u64 (.ofNat 1)) fun v36 =>
loopC (σ := AV × AV × AV × AV × AV × AV × AV × AV × AV × AV × AV × Unit) NN (fun i40 s37 h38 d39 =>
pInt .geq s37.2.2.2.2.2.2.2.2.2.1 s37.2.1 fun v41 =>
pCond v41 (
pInt .sub s37.2.2.2.1 (.int .i64 (.ofNat 1)) fun v42 =>
pInt .and s37.2.2.2.2.2.2.2.2.2.1 s37.1 fun v43 =>
pIdxStr (.str [48, 49, 50, 51, 52, 53, 54, 55, 56, 57, 97, 98, 99, 100, 101, 102, 103, 104, 105, 106, 107, 108, 109, 110, 111, 112, 113, 114, 115, 116, 117, 118, 119, 120, 121, 122]) v43 fun v44 =>
pIdxP s37.2.2.2.2.1 v42 65 1 fun v45 =>
pStore h38 v45 v44 1 fun h46 =>
pShift .shr s37.2.2.2.2.2.2.2.2.2.1 s37.2.2.1 fun v47 =>
i40 (s37.1, s37.2.1, s37.2.2.1, v42, s37.2.2.2.2.1, s37.2.2.2.2.2.1, s37.2.2.2.2.2.2.1, s37.2.2.2.2.2.2.2.1, s37.2.2.2.2.2.2.2.2.1, v47, s37.2.2.2.2.2.2.2.2.2.2.1, ()) h46 d39) (
pInt .sub s37.2.2.2.1 (.int .i64 (.ofNat 1)) fun v48 =>
pIdxStr (.str [48, 49, 50, 51, 52, 53, 54, 55, 56, 57, 97, 98, 99, 100, 101, 102, 103, 104, 105, 106, 107, 108, 109, 110, 111, 112, 113, 114, 115, 116, 117, 118, 119, 120, 121, 122]) s37.2.2.2.2.2.2.2.2.2.1 fun v49 =>
pIdxP s37.2.2.2.2.1 v48 65 1 fun v50 =>
pStore h38 v50 v49 1 fun h51 =>
j13 (v48, s37.2.2.2.2.1, s37.2.2.2.2.2.1, s37.2.2.2.2.2.2.1, s37.2.2.2.2.2.2.2.1, s37.2.2.2.2.2.2.2.2.1, s37.2.2.2.2.2.2.2.2.2.2.1, ()) h51 d39)) (v36, v34, v33, s6.1, s6.2.1, s6.2.2.1, s6.2.2.2.1, s6.2.2.2.2.1, s6.2.2.2.2.2.1, s6.2.2.2.2.2.2.2.1, s6.2.2.2.2.2.2.2.2.1, ()) h32 d8) (
pConvI .u64 s6.2.2.2.2.2.2.1 fun v52 =>
loopC (σ := AV × AV × AV × AV × AV × AV × AV × AV × AV × Unit) NN (fun i56 s53 h54 d55 =>
pInt .geq s53.2.2.2.2.2.2.2.1 s53.1 fun v57 =>
pCond v57 (
pInt .sub s53.2.1 (.int .i64 (.ofNat 1)) fun v58 =>
pInt .quo s53.2.2.2.2.2.2.2.1 s53.1 fun v59 =>
pInt .mul v59 s53.1 fun v60 =>
pInt .sub s53.2.2.2.2.2.2.2.1 v60 fun v61 =>
pIdxStr (.str [48, 49, 50, 51, 52, 53, 54, 55, 56, 57, 97, 98, 99, 100, 101, 102, 103, 104, 105, 106, 107, 108, 109, 110, 111, 112, 113, 114, 115, 116, 117, 118, 119, 120, 121, 122]) v61 fun v62 =>
pIdxP s53.2.2.1 v58 65 1 fun v63 =>
pStore h54 v63 v62 1 fun h64 =>
i56 (s53.1, v58, s53.2.2.1, s53.2.2.2.1, s53.2.2.2.2.1, s53.2.2.2.2.2.1, s53.2.2.2.2.2.2.1, v59, s53.2.2.2.2.2.2.2.2.1, ()) h64 d55) (
pInt .sub s53.2.1 (.int .i64 (.ofNat 1)) fun v65 =>
pIdxStr (.str [48, 49, 50, 51, 52, 53, 54, 55, 56, 57, 97, 98, 99, 100, 101, 102, 103, 104, 105, 106, 107, 108, 109, 110, 111, 112, 113, 114, 115, 116, 117, 118, 119, 120, 121, 122]) s53.2.2.2.2.2.2.2.1 fun v66 =>
pIdxP s53.2.2.1 v65 65 1 fun v67 =>
pStore h54 v67 v66 1 fun h68 =>
j13 (v65, s53.2.2.1, s53.2.2.2.1, s53.2.2.2.2.1, s53.2.2.2.2.2.1, s53.2.2.2.2.2.2.1, s53.2.2.2.2.2.2.2.2.1, ()) h68 d55)) (v52, s6.1, s6.2.1, s6.2.2.1, s6.2.2.2.1, s6.2.2.2.2.1, s6.2.2.2.2.2.1, s6.2.2.2.2.2.2.2.1, s6.2.2.2.2.2.2.2.2.1, ()) h29 d8)) fun j9 =>
pCond s0.2.2.2.1 (
pUn .neg s0.2.2.2.2.2.1 fun v69 =>
j9 ((.int .i64 (.ofNat 65)), v4, s0.1, s0.2.1, s0.2.2.1, s0.2.2.2.1, s0.2.2.2.2.1, v69, s0.2.2.2.2.2.2.1, ()) h5 d2) (
j9 ((.int .i64 (.ofNat 65)), v4, s0.1, s0.2.1, s0.2.2.1, s0.2.2.2.1, s0.2.2.2.2.1, s0.2.2.2.2.2.1, s0.2.2.2.2.2.2.1, ()) h5 d2)) fun j3 =>
pInt .lss a2 (.int .i64 (.ofNat 2)) fun v70 =>
joinC (α := AV × AV × AV × AV × AV × AV × AV × AV × AV × Unit → AH → R) (fun s71 h72 =>
pPick s71.2.1 (.bool true) s71.1 fun v74 =>
joinC (α := AV × AV × AV × AV × AV × AV × AV × AV × AV × Unit → AH → R) (fun s75 h76 =>
pPick s75.2.1 (.bool true) s75.1 fun v78 =>
pCond v78 (
none /- op -/) (
j3 (s75.2.2.1, s75.2.2.2.1, s75.2.2.2.2.1, s75.2.2.2.2.2.1, s75.2.2.2.2.2.2.1, s75.2.2.2.2.2.2.2.1, s75.2.2.2.2.2.2.2.2.1, ()) h76 [])) fun j77 =>
pWant v74 false (
pInt .gtr s71.2.2.2.2.2.2.1 (.int .i64 (.ofNat 36)) fun v79 =>
j77 (v79, v74, s71.2.2.1, s71.2.2.2.1, s71.2.2.2.2.1, s71.2.2.2.2.2.1, s71.2.2.2.2.2.2.1, s71.2.2.2.2.2.2.2.1, s71.2.2.2.2.2.2.2.2.1, ()) h72) (
j77 (.undef, v74, s71.2.2.1, s71.2.2.2.1, s71.2.2.2.2.1, s71.2.2.2.2.2.1, s71.2.2.2.2.2.2.1, s71.2.2.2.2.2.2.2.1, s71.2.2.2.2.2.2.2.2.1, ()) h72)) fun j73 =>
pWant v70 false (
pInt .eql a2 (.int .i64 (.ofNat 10)) fun v80 =>
j73 (v80, v70, (.str []), .nils, a4, a3, a2, a1, a0, ()) h) (
j73 (.undef, v70, (.str []), .nils, a4, a3, a2, a1, a0, ()) h)
theorem S185_eq (c : CV) (a0 a1 a2 a3 a4 : AV) (h : AH) : enterK Tryz.prog NN P185 c 185 [a0, a1, a2, a3, a4] h = S185 c a0 a1 a2 a3 a4 h := by kernel_rfl
def W185 (c : CV) (l : List AV) (h : AH) : R := match l with | [a0, a1, a2, a3, a4] => S185 c a0 a1 a2 a3 a4 h | _ => none
theorem W185_ok : WOk Tryz.prog 185 W185 := by
  intro c l h r e
  unfold W185 at e
  split at e
  · exact ⟨P185, by rw [S185_eq]; exact e⟩
  · cases e
/- slices.IndexFunc[[]quietus/api.Cell,quietus/api.Cell] -/
def P188 : Pl := (.n none .z (.n none (.n none .z (.n none (.n (some [8, 7, 1, 0]) .z .z) .z)) .z))
def S188 (c : CV) (a0 a1 : AV) (h : AH) : R :=
pLenS a0 fun v0 =>
loopC (σ := AV × AV × AV × AV × Unit) NN (fun i4 s1 h2 d3 =>
pInt .lss s1.1 s1.2.1 fun v5 =>
pCond v5 (
pIdxS s1.2.2.2.1 s1.1 2 fun v6 =>
pLoadN h2 v6 2 fun v7 =>
pCall c s1.2.2.1 [v7] h2 fun v8 h9 =>
pCond v8 (
pLeave d3 h9 fun h10 =>
some (s1.1, h10)) (
pInt .add s1.1 (.int .i64 (.ofNat 1)) fun v11 =>
i4 (v11, s1.2.1, s1.2.2.1, s1.2.2.2.1, ()) h9 d3)) (
pLeave d3 h2 fun h12 =>
some ((.int .i64 (.negSucc 0)), h12))) ((.int .i64 (.ofNat 0)), v0, a1, a0, ()) h []
theorem S188_eq (c : CV) (a0 a1 : AV) (h : AH) : enterK Tryz.prog NN P188 c 188 [a0, a1] h = S188 c a0 a1 h := by kernel_rfl
def W188 (c : CV) (l : List AV) (h : AH) : R := match l with | [a0, a1] => S188 c a0 a1 h | _ => none
theorem W188_ok : WOk Tryz.prog 188 W188 := by
  intro c l h r e
  unfold W188 at e
  split at e
  · exact ⟨P188, by rw [S188_eq]; exact e⟩
  · cases e
/- (*quietus/writes.Writes).find$1 -/
def P189 : Pl := .z
def S189 (_ : CV) (a0 a1 : AV) (h : AH) : R :=
pBox h 35 a0 fun v0 h1 =>
pFieldA v0 0 fun v2 =>
pLoad1 h1 v2 fun v3 =>
pLoad1 h1 a1 fun v4 =>
pInt .eql v3 v4 fun v5 =>
some (v5, h1)
theorem S189_eq (c : CV) (a0 a1 : AV) (h : AH) : enterK Tryz.prog NN P189 c 189 [a0, a1] h = S189 c a0 a1 h := by kernel_rfl
def W189 (c : CV) (l : List AV) (h : AH) : R := match l with | [a0, a1] => S189 c a0 a1 h | _ => none
theorem W189_ok : WOk Tryz.prog 189 W189 := by
  intro c l h r e
  unfold W189 at e
  split at e
  · exact ⟨P189, by rw [S189_eq]; exact e⟩
  · cases e
/- (*quietus/writes.Writes).Len -/
def P190 : Pl := .z
def S190 (_ : CV) (a0 : AV) (h : AH) : R :=
pNil a0 fun v0 =>
pFieldA v0 1 fun v1 =>
pLoad1 h v1 fun v2 =>
pLenS v2 fun v3 =>
some (v3, h)
theorem S190_eq (c : CV) (a0 : AV) (h : AH) : enterK Tryz.prog NN P190 c 190 [a0] h = S190 c a0 h := by kernel_rfl
def W190 (c : CV) (l : List AV) (h : AH) : R := match l with | [a0] => S190 c a0 h | _ => none
theorem W190_ok : WOk Tryz.prog 190 W190 := by
  intro c l h r e
  unfold W190 at e
  split at e
  · exact ⟨P190, by rw [S190_eq]; exact e⟩
  · cases e
/- quietus/code.named -/
def P191 : Pl := (.n none .z (.n none (.n none (.r [[11, 7, 1, 0]]) .z) .z))
def S191 (_ : CV) (a0 a1 : AV) (h : AH) : R :=
pInt .lss a1 (.int .i64 (.ofNat 0)) fun v0 =>
joinC (α := AV × AV × AV × AV × Unit → AH → R) (fun s1 h2 =>
pPick s1.2.1 (.bool true) s1.1 fun v4 =>
pCond v4 (
some ((.str []), h2)) (
pIdxS s1.2.2.2.1 s1.2.2.1 1 fun v5 =>
pLoad1 h2 v5 fun v6 =>
some (v6, h2))) fun j3 =>
pWant v0 false (
pLenS a0 fun v7 =>
pInt .geq a1 v7 fun v8 =>
j3 (v8, v0, a1, a0, ()) h) (
j3 (.undef, v0, a1, a0, ()) h)
theorem S191_eq (c : CV) (a0 a1 : AV) (h : AH) : enterK Tryz.prog NN P191 c 191 [a0, a1] h = S191 c a0 a1 h := by kernel_rfl
def W191 (c : CV) (l : List AV) (h : AH) : R := match l with | [a0, a1] => S191 c a0 a1 h | _ => none
theorem W191_ok : WOk Tryz.prog 191 W191 := by
  intro c l h r e
  unfold W191 at e
  split at e
  · exact ⟨P191, by rw [S191_eq]; exact e⟩
  · cases e
/- quietus/code.names -/
def P192 : Pl := .z
def S192 (_ : CV) (h : AH) : R :=
pBuildS h 9 [(.str [])] 24 [(0, 1, (.str [])), (1, 1, (.str [115, 101, 116])), (2, 1, (.str [109, 111, 118, 101])), (3, 1, (.str [97, 100, 100])), (4, 1, (.str [115, 117, 98])), (5, 1, (.str [109, 117, 108])), (6, 1, (.str [108, 101, 115, 115])), (7, 1, (.str [101, 113, 117, 97, 108])), (8, 1, (.str [108, 111, 97, 100])), (9, 1, (.str [115, 116, 111, 114, 101])), (10, 1, (.str [97, 108, 108, 111, 99])), (11, 1, (.str [102, 114, 101, 101])), (12, 1, (.str [106, 117, 109, 112])), (13, 1, (.str [122, 101, 114, 111])), (14, 1, (.str [111, 112, 101, 110])), (15, 1, (.str [99, 108, 111, 115, 101])), (16, 1, (.str [117, 110, 100, 111])), (17, 1, (.str [101, 105, 116, 104, 101, 114])), (18, 1, (.str [111, 114])), (19, 1, (.str [100, 111, 110, 101])), (20, 1, (.str [114, 101, 116, 114, 121])), (21, 1, (.str [101, 109, 105, 116])), (22, 1, (.str [102, 97, 105, 108])), (23, 1, (.str [99, 97, 108, 108]))] fun v0 h1 =>
some (v0, h1)
theorem S192_eq (c : CV) (h : AH) : enterK Tryz.prog NN P192 c 192 [] h = S192 c h := by kernel_rfl
def W192 (c : CV) (l : List AV) (h : AH) : R := match l with | [] => S192 c h | _ => none
theorem W192_ok : WOk Tryz.prog 192 W192 := by
  intro c l h r e
  unfold W192 at e
  split at e
  · exact ⟨P192, by rw [S192_eq]; exact e⟩
  · cases e
/- quietus/draft.of -/
def P193 : Pl := (.n none .z (.n none .z (.n none (.n none .z (.n none (.n (some [14, 13, 12, 3, 0]) .z .z) .z)) (.n none (.n none .z (.n none (.n (some [28, 27, 26, 3]) .z .z) .z)) .z))))
def S193 (c : CV) (a0 : AV) (h : AH) : R :=
pCall c (.fn 53 [] []) [a0] h fun v0 h1 =>
pCall c (.fn 52 [] []) [v0, (.int .i64 (.ofNat 96))] h1 fun v2 h3 =>
pCall c (.fn 42 [] []) [a0] h3 fun v4 h5 =>
pLenS v4 fun v6 =>
loopC (σ := AV × AV × AV × AV × AV × Unit) NN (fun i10 s7 h8 d9 =>
pInt .lss s7.1 s7.2.1 fun v11 =>
pCond v11 (
pIdxS s7.2.2.1 s7.1 2 fun v12 =>
pLoadN h8 v12 2 fun v13 =>
pBox h8 35 (.agg [(.int .i64 (.ofNat 0)), (.int .u64 (.ofNat 0))]) fun v14 h15 =>
pStore h15 v14 v13 2 fun h16 =>
pFieldA v14 0 fun v17 =>
pLoad1 h16 v17 fun v18 =>
pFieldA v14 1 fun v19 =>
pLoad1 h16 v19 fun v20 =>
pCall c (.fn 54 [] []) [s7.2.2.2.1, v18, v20] h16 fun _ h22 =>
pInt .add s7.1 (.int .i64 (.ofNat 1)) fun v23 =>
i10 (v23, s7.2.1, s7.2.2.1, s7.2.2.2.1, s7.2.2.2.2.1, ()) h22 d9) (
pCall c (.fn 217 [] []) [s7.2.2.2.2.1] h8 fun v24 h25 =>
pLenS v24 fun v26 =>
loopC (σ := AV × AV × AV × AV × Unit) NN (fun i30 s27 h28 d29 =>
pInt .lss s27.1 s27.2.1 fun v31 =>
pCond v31 (
pIdxS s27.2.2.1 s27.1 2 fun v32 =>
pLoadN h28 v32 2 fun v33 =>
pBox h28 35 (.agg [(.int .i64 (.ofNat 0)), (.int .u64 (.ofNat 0))]) fun v34 h35 =>
pStore h35 v34 v33 2 fun h36 =>
pFieldA v34 0 fun v37 =>
pLoad1 h36 v37 fun v38 =>
pFieldA v34 1 fun v39 =>
pLoad1 h36 v39 fun v40 =>
pCall c (.fn 54 [] []) [s27.2.2.2.1, v38, v40] h36 fun _ h42 =>
pInt .add s27.1 (.int .i64 (.ofNat 1)) fun v43 =>
i30 (v43, s27.2.1, s27.2.2.1, s27.2.2.2.1, ()) h42 d29) (
pLeave d29 h28 fun h44 =>
some (s27.2.2.2.1, h44))) ((.int .i64 (.ofNat 0)), v26, v24, s7.2.2.2.1, ()) h25 d9)) ((.int .i64 (.ofNat 0)), v6, v4, v2, a0, ()) h5 []
theorem S193_eq (c : CV) (a0 : AV) (h : AH) : enterK Tryz.prog NN P193 c 193 [a0] h = S193 c a0 h := by kernel_rfl
def W193 (c : CV) (l : List AV) (h : AH) : R := match l with | [a0] => S193 c a0 h | _ => none
theorem W193_ok : WOk Tryz.prog 193 W193 := by
  intro c l h r e
  unfold W193 at e
  split at e
  · exact ⟨P193, by rw [S193_eq]; exact e⟩
  · cases e
/- (*quietus/view.View).Need -/
def P194 : Pl := .z
def S194 (_ : CV) (a0 : AV) (h : AH) : R :=
pNil a0 fun v0 =>
pFieldA v0 3 fun v1 =>
pLoad1 h v1 fun v2 =>
some (v2, h)
theorem S194_eq (c : CV) (a0 : AV) (h : AH) : enterK Tryz.prog NN P194 c 194 [a0] h = S194 c a0 h := by kernel_rfl
def W194 (c : CV) (l : List AV) (h : AH) : R := match l with | [a0] => S194 c a0 h | _ => none
theorem W194_ok : WOk Tryz.prog 194 W194 := by
  intro c l h r e
  unfold W194 at e
  split at e
  · exact ⟨P194, by rw [S194_eq]; exact e⟩
  · cases e
/- (*quietus/draft.Draft).Step -/
def P195 : Pl := (.n none .z (.n none .z (.n (some [0]) .z .z)))
def S195 (c : CV) (a0 : AV) (h : AH) : R :=
pNil a0 fun v0 =>
pFieldA v0 2 fun v1 =>
pLoad1 h v1 fun v2 =>
pInt .add v2 (.int .i64 (.ofNat 1)) fun v3 =>
pNil a0 fun v4 =>
pFieldA v4 2 fun v5 =>
pStore h v5 v3 1 fun h6 =>
joinC (α := AV × Unit → AH → List Nat → R) (fun s7 h8 d9 =>
pCall c (.fn 143 [] []) [s7.1] h8 fun v11 h12 =>
pLeave d9 h12 fun h13 =>
some (v11, h13)) fun j10 =>
pNil a0 fun v14 =>
pFieldA v14 2 fun v15 =>
pLoad1 h6 v15 fun v16 =>
pInt .gtr v16 (.int .i64 (.ofNat 2048)) fun v17 =>
pCond v17 (
pCall c (.fn 197 [] []) [a0, (.int .i64 (.ofNat 2))] h6 fun _ h19 =>
j10 (a0, ()) h19 []) (
j10 (a0, ()) h6 [])
theorem S195_eq (c : CV) (a0 : AV) (h : AH) : enterK Tryz.prog NN P195 c 195 [a0] h = S195 c a0 h := by kernel_rfl
def W195 (c : CV) (l : List AV) (h : AH) : R := match l with | [a0] => S195 c a0 h | _ => none
theorem W195_ok : WOk Tryz.prog 195 W195 := by
  intro c l h r e
  unfold W195 at e
  split at e
  · exact ⟨P195, by rw [S195_eq]; exact e⟩
  · cases e
/- (*quietus/draft.Draft).Place -/
def P196 : Pl := .z
def S196 (c : CV) (a0 a1 : AV) (h : AH) : R :=
pCall c (.fn 149 [] []) [a0, a1] h fun v0 h1 =>
pCall c (.fn 218 [] []) [a0, v0] h1 fun v2 h3 =>
some (v2, h3)
theorem S196_eq (c : CV) (a0 a1 : AV) (h : AH) : enterK Tryz.prog NN P196 c 196 [a0, a1] h = S196 c a0 a1 h := by kernel_rfl
def W196 (c : CV) (l : List AV) (h : AH) : R := match l with | [a0, a1] => S196 c a0 a1 h | _ => none
theorem W196_ok : WOk Tryz.prog 196 W196 := by
  intro c l h r e
  unfold W196 at e
  split at e
  · exact ⟨P196, by rw [S196_eq]; exact e⟩
  · cases e
/- (*quietus/draft.Draft).Fail -/
def P197 : Pl := .z
def S197 (c : CV) (a0 a1 : AV) (h : AH) : R :=
pCall c (.fn 143 [] []) [a0] h fun v0 h1 =>
pCond v0 (
pNil a0 fun v2 =>
pFieldA v2 1 fun v3 =>
pStore h1 v3 a1 1 fun h4 =>
some ((.tup []), h4)) (
some ((.tup []), h1))
theorem S197_eq (c : CV) (a0 a1 : AV) (h : AH) : enterK Tryz.prog NN P197 c 197 [a0, a1] h = S197 c a0 a1 h := by kernel_rfl
def W197 (c : CV) (l : List AV) (h : AH) : R := match l with | [a0, a1] => S197 c a0 a1 h | _ => none
theorem W197_ok : WOk Tryz.prog 197 W197 := by
  intro c l h r e
  unfold W197 at e
  split at e
  · exact ⟨P197, by rw [S197_eq]; exact e⟩
  · cases e
/- quietus/table.chain -/
def P198 : Pl := .z
def S198 (_ : CV) (a0 a1 : AV) (h : AH) : R :=
pInt .mul a0 (.int .u64 (.ofNat 11400714819323198485)) fun v0 =>
pShift .shr v0 (.int .u64 (.ofNat 60)) fun v1 =>
pConvI .i64 v1 fun v2 =>
pInt .sub a1 (.int .i64 (.ofNat 1)) fun v3 =>
pInt .and v2 v3 fun v4 =>
some (v4, h)
theorem S198_eq (c : CV) (a0 a1 : AV) (h : AH) : enterK Tryz.prog NN P198 c 198 [a0, a1] h = S198 c a0 a1 h := by kernel_rfl
def W198 (c : CV) (l : List AV) (h : AH) : R := match l with | [a0, a1] => S198 c a0 a1 h | _ => none
theorem W198_ok : WOk Tryz.prog 198 W198 := by
  intro c l h r e
  unfold W198 at e
  split at e
  · exact ⟨P198, by rw [S198_eq]; exact e⟩
  · cases e
/- (*quietus/table.table).each -/
def P199 : Pl := (.n none .z (.n none (.n (some [11, 10, 1, 0]) (.n none .z (.n none .z (.n none (.n none (.n none .z (.n none .z (.n none (.n (some [11, 10, 5, 1, 0]) (.n none (.n none (.r [[32, 27, 11, 10, 5, 1, 0]]) .z) .z) .z) .z))) .z) .z))) .z) .z))
def S199 (c : CV) (a0 a1 : AV) (h : AH) : R :=
pNil a0 fun v0 =>
pFieldA v0 2 fun v1 =>
pLoad1 h v1 fun v2 =>
loopC (σ := AV × AV × AV × AV × Unit) NN (fun i6 s3 h4 d5 =>
pInt .lss s3.1 s3.2.1 fun v7 =>
pCond v7 (
pNil s3.2.2.2.1 fun v8 =>
pFieldA v8 0 fun v9 =>
pLoad1 h4 v9 fun v10 =>
pNil s3.2.2.2.1 fun v11 =>
pFieldA v11 3 fun v12 =>
pLoad1 h4 v12 fun v13 =>
pInt .add v13 s3.1 fun v14 =>
pCall c (.fn 196 [] []) [v10, v14] h4 fun v15 h16 =>
loopC (σ := AV × AV × AV × AV × AV × Unit) NN (fun i20 s17 h18 d19 =>
pInt .neq s17.2.2.1 (.int .i64 (.ofNat 0)) fun v21 =>
joinC (α := AV × AV × AV × AV × AV × AV × AV × Unit → AH → R) (fun s22 h23 =>
pPick s22.2.1 s22.1 (.bool false) fun v25 =>
pCond v25 (
pNil s22.2.2.2.2.2.2.1 fun v26 =>
pFieldA v26 0 fun v27 =>
pLoad1 h23 v27 fun v28 =>
pInt .add s22.2.2.2.2.1 (.int .i64 (.ofNat 2)) fun v29 =>
pCall c (.fn 196 [] []) [v28, v29] h23 fun v30 h31 =>
pCall c s22.2.2.2.2.2.1 [s22.2.2.2.2.1] h31 fun _ h33 =>
i20 (s22.2.2.1, s22.2.2.2.1, v30, s22.2.2.2.2.2.1, s22.2.2.2.2.2.2.1, ()) h33 d19) (
pInt .add s22.2.2.1 (.int .i64 (.ofNat 1)) fun v34 =>
i6 (v34, s22.2.2.2.1, s22.2.2.2.2.2.1, s22.2.2.2.2.2.2.1, ()) h23 d19)) fun j24 =>
pWant v21 true (
pNil s17.2.2.2.2.1 fun v35 =>
pFieldA v35 0 fun v36 =>
pLoad1 h18 v36 fun v37 =>
pCall c (.fn 195 [] []) [v37] h18 fun v38 h39 =>
j24 (v38, v21, s17.1, s17.2.1, s17.2.2.1, s17.2.2.2.1, s17.2.2.2.2.1, ()) h39) (
j24 (.undef, v21, s17.1, s17.2.1, s17.2.2.1, s17.2.2.2.1, s17.2.2.2.2.1, ()) h18)) (s3.1, s3.2.1, v15, s3.2.2.1, s3.2.2.2.1, ()) h16 d5) (
pLeave d5 h4 fun h40 =>
some ((.tup []), h40))) ((.int .i64 (.ofNat 0)), v2, a1, a0, ()) h []
theorem S199_eq (c : CV) (a0 a1 : AV) (h : AH) : enterK Tryz.prog NN P199 c 199 [a0, a1] h = S199 c a0 a1 h := by kernel_rfl
def W199 (c : CV) (l : List AV) (h : AH) : R := match l with | [a0, a1] => S199 c a0 a1 h | _ => none
theorem W199_ok : WOk Tryz.prog 199 W199 := by
  intro c l h r e
  unfold W199 at e
  split at e
  · exact ⟨P199, by rw [S199_eq]; exact e⟩
  · cases e
/- (*quietus/table.table).grow$1 -/
def P200 : Pl := (.n none (.r [[5, 3, 1, 0]]) .z)
def S200 (c : CV) (a0 a1 a2 a3 : AV) (h : AH) : R :=
joinC (α := AV × AV × AV × AV × Unit → AH → R) (fun s0 h1 =>
pLoad1 h1 s0.2.2.1 fun v3 =>
pNil v3 fun v4 =>
pFieldA v4 0 fun v5 =>
pLoad1 h1 v5 fun v6 =>
pInt .add s0.2.2.2.1 (.int .i64 (.ofNat 2)) fun v7 =>
pLoad1 h1 s0.2.1 fun v8 =>
pIdxS v8 s0.1 1 fun v9 =>
pLoad1 h1 v9 fun v10 =>
pCall c (.fn 147 [] []) [v6, v7, v10] h1 fun _ h12 =>
pLoad1 h12 s0.2.1 fun v13 =>
pIdxS v13 s0.1 1 fun v14 =>
pStore h12 v14 s0.2.2.2.1 1 fun h15 =>
some ((.tup []), h15)) fun j2 =>
pLoad1 h a1 fun v16 =>
pNil v16 fun v17 =>
pFieldA v17 0 fun v18 =>
pLoad1 h v18 fun v19 =>
pInt .add a0 (.int .i64 (.ofNat 0)) fun v20 =>
pCall c (.fn 149 [] []) [v19, v20] h fun v21 h22 =>
pLoad1 h22 a2 fun v23 =>
pCall c (.fn 198 [] []) [v21, v23] h22 fun v24 h25 =>
pChk a2 none v23 h h22 h.nx <|
j2 (v24, a3, a1, a0, ()) h25
theorem S200_eq (c : CV) (a0 a1 a2 a3 : AV) (h : AH) : enterK Tryz.prog NN P200 c 200 [a0, a1, a2, a3] h = S200 c a0 a1 a2 a3 h := by kernel_rfl
def W200 (c : CV) (l : List AV) (h : AH) : R := match l with | [a0, a1, a2, a3] => S200 c a0 a1 a2 a3 h | _ => none
theorem W200_ok : WOk Tryz.prog 200 W200 := by
  intro c l h r e
  unfold W200 at e
  split at e
  · exact ⟨P200, by rw [S200_eq]; exact e⟩
  · cases e
/- quietus/queue.Push$1 -/
def P201 : Pl := (.n none .z (.n (some [5, 4, 2, 0]) .z (.n none .z (.n none .z (.n none .z (.n (some [6, 4, 0]) .z .z))))))
def S201 (c : CV) (a0 a1 a2 : AV) (h : AH) : R :=
pLoad1 h a1 fun v0 =>
pCall c (.fn 196 [] []) [a0, v0] h fun v1 h2 =>
joinC (α := AV × AV × AV × AV × Unit → AH → List Nat → R) (fun s3 h4 d5 =>
pCall c (.fn 145 [] []) [s3.2.2.2.1, (.int .i64 (.ofNat 2))] h4 fun v7 h8 =>
pInt .add v7 (.int .i64 (.ofNat 0)) fun v9 =>
pLoad1 h8 s3.2.2.1 fun v10 =>
pCall c (.fn 146 [] []) [s3.2.2.2.1, v9, v10] h8 fun _ h12 =>
pInt .add v7 (.int .i64 (.ofNat 1)) fun v13 =>
pCall c (.fn 147 [] []) [s3.2.2.2.1, v13, (.int .i64 (.ofNat 0))] h12 fun _ h15 =>
joinC (α := AV × AV × AV × Unit → AH → List Nat → R) (fun s16 h17 d18 =>
pInt .add s16.2.1 (.int .i64 (.ofNat 1)) fun v20 =>
pCall c (.fn 147 [] []) [s16.2.2.1, v20, s16.1] h17 fun _ h22 =>
pLeave d18 h22 fun h23 =>
some ((.tup []), h23)) fun j19 =>
pInt .neq s3.1 (.int .i64 (.ofNat 0)) fun v24 =>
pCond v24 (
pInt .add s3.2.1 (.int .i64 (.ofNat 1)) fun v25 =>
pCall c (.fn 196 [] []) [s3.2.2.2.1, v25] h15 fun v26 h27 =>
pInt .add v26 (.int .i64 (.ofNat 1)) fun v28 =>
pCall c (.fn 147 [] []) [s3.2.2.2.1, v28, v7] h27 fun _ h30 =>
j19 (v7, s3.2.1, s3.2.2.2.1, ()) h30 d5) (
pInt .add s3.2.1 (.int .i64 (.ofNat 0)) fun v31 =>
pCall c (.fn 147 [] []) [s3.2.2.2.1, v31, v7] h15 fun _ h33 =>
j19 (v7, s3.2.1, s3.2.2.2.1, ()) h33 d5)) fun j6 =>
pInt .neq v1 (.int .i64 (.ofNat 0)) fun v34 =>
pCond v34 (
pInt .add v1 (.int .i64 (.ofNat 0)) fun v35 =>
pCall c (.fn 196 [] []) [a0, v35] h2 fun v36 h37 =>
j6 (v36, v1, a2, a0, ()) h37 []) (
pCall c (.fn 143 [] []) [a0] h2 fun v38 h39 =>
pCond v38 (
pCall c (.fn 145 [] []) [a0, (.int .i64 (.ofNat 2))] h39 fun v40 h41 =>
pLoad1 h41 a1 fun v42 =>
pCall c (.fn 147 [] []) [a0, v42, v40] h41 fun _ h44 =>
j6 ((.int .i64 (.ofNat 0)), v40, a2, a0, ()) h44 []) (
j6 ((.int .i64 (.ofNat 0)), v1, a2, a0, ()) h39 []))
theorem S201_eq (c : CV) (a0 a1 a2 : AV) (h : AH) : enterK Tryz.prog NN P201 c 201 [a0, a1, a2] h = S201 c a0 a1 a2 h := by kernel_rfl
def W201 (c : CV) (l : List AV) (h : AH) : R := match l with | [a0, a1, a2] => S201 c a0 a1 a2 h | _ => none
theorem W201_ok : WOk Tryz.prog 201 W201 := by
  intro c l h r e
  unfold W201 at e
  split at e
  · exact ⟨P201, by rw [S201_eq]; exact e⟩
  · cases e
/- quietus/queue.Take$1 -/
def P202 : Pl := .z
def S202 (c : CV) (a0 a1 a2 a3 : AV) (h : AH) : R :=
pLoad1 h a1 fun v0 =>
pCall c (.fn 196 [] []) [a0, v0] h fun v1 h2 =>
pInt .eql v1 (.int .i64 (.ofNat 0)) fun v3 =>
pCond v3 (
some ((.tup []), h2)) (
pInt .add v1 (.int .i64 (.ofNat 0)) fun v4 =>
pCall c (.fn 196 [] []) [a0, v4] h2 fun v5 h6 =>
pInt .eql v5 (.int .i64 (.ofNat 0)) fun v7 =>
pCond v7 (
some ((.tup []), h6)) (
pInt .add v5 (.int .i64 (.ofNat 0)) fun v8 =>
pCall c (.fn 149 [] []) [a0, v8] h6 fun v9 h10 =>
pStore h10 a2 v9 1 fun h11 =>
pStore h11 a3 (.bool true) 1 fun h12 =>
pInt .add v1 (.int .i64 (.ofNat 0)) fun v13 =>
pInt .add v5 (.int .i64 (.ofNat 1)) fun v14 =>
pCall c (.fn 149 [] []) [a0, v14] h12 fun v15 h16 =>
pCall c (.fn 146 [] []) [a0, v13, v15] h16 fun _ h18 =>
pCall c (.fn 150 [] []) [a0, v5] h18 fun _ h20 =>
some ((.tup []), h20)))
theorem S202_eq (c : CV) (a0 a1 a2 a3 : AV) (h : AH) : enterK Tryz.prog NN P202 c 202 [a0, a1, a2, a3] h = S202 c a0 a1 a2 a3 h := by kernel_rfl
def W202 (c : CV) (l : List AV) (h : AH) : R := match l with | [a0, a1, a2, a3] => S202 c a0 a1 a2 a3 h | _ => none
theorem W202_ok : WOk Tryz.prog 202 W202 := by
  intro c l h r e
  unfold W202 at e
  split at e
  · exact ⟨P202, by rw [S202_eq]; exact e⟩
  · cases e
/- (*quietus/tree.tree).child -/
def P203 : Pl := (.n none .z (.n none .z (.n none .z (.n none (.r [[6]]) .z))))
def S203 (c : CV) (a0 a1 a2 : AV) (h : AH) : R :=
pInt .eql a1 (.int .i64 (.ofNat 0)) fun v0 =>
pCond v0 (
pNil a0 fun v1 =>
pFieldA v1 0 fun v2 =>
pLoad1 h v2 fun v3 =>
pCall c (.fn 197 [] []) [v3, (.int .i64 (.ofNat 2))] h fun _ h5 =>
some ((.int .i64 (.ofNat 0)), h5)) (
pInt .eql a2 (.int .i64 (.ofNat 1)) fun v6 =>
pCond v6 (
pNil a0 fun v7 =>
pFieldA v7 0 fun v8 =>
pLoad1 h v8 fun v9 =>
pInt .add a1 (.int .i64 (.ofNat 3)) fun v10 =>
pCall c (.fn 196 [] []) [v9, v10] h fun v11 h12 =>
some (v11, h12)) (
joinC (α := AV × Unit → AH → R) (fun s13 h14 =>
some (s13.1, h14)) fun j15 =>
pNil a0 fun v16 =>
pFieldA v16 0 fun v17 =>
pLoad1 h v17 fun v18 =>
pNil a0 fun v19 =>
pFieldA v19 0 fun v20 =>
pLoad1 h v20 fun v21 =>
pInt .add a1 (.int .i64 (.ofNat 2)) fun v22 =>
pCall c (.fn 149 [] []) [v21, v22] h fun v23 h24 =>
pShift .shr v23 (.int .u64 (.ofNat 1)) fun v25 =>
pCall c (.fn 218 [] []) [v18, v25] h24 fun v26 h27 =>
pChk v17 none v18 h h24 h.nx <|
j15 (v26, ()) h27))
theorem S203_eq (c : CV) (a0 a1 a2 : AV) (h : AH) : enterK Tryz.prog NN P203 c 203 [a0, a1, a2] h = S203 c a0 a1 a2 h := by kernel_rfl
def W203 (c : CV) (l : List AV) (h : AH) : R := match l with | [a0, a1, a2] => S203 c a0 a1 a2 h | _ => none
theorem W203_ok : WOk Tryz.prog 203 W203 := by
  intro c l h r e
  unfold W203 at e
  split at e
  · exact ⟨P203, by rw [S203_eq]; exact e⟩
  · cases e
/- (*quietus/tree.tree).hang -/
def P204 : Pl := (.n none .z (.r [[]]))
def S204 (c : CV) (a0 a1 a2 a3 : AV) (h : AH) : R :=
pInt .eql a2 (.int .i64 (.ofNat 1)) fun v0 =>
pCond v0 (
pNil a0 fun v1 =>
pFieldA v1 0 fun v2 =>
pLoad1 h v2 fun v3 =>
pInt .add a1 (.int .i64 (.ofNat 3)) fun v4 =>
pCall c (.fn 147 [] []) [v3, v4, a3] h fun _ h6 =>
some ((.tup []), h6)) (
joinC (α := Unit → AH → R) (fun _ h8 =>
some ((.tup []), h8)) fun j9 =>
pNil a0 fun v10 =>
pFieldA v10 0 fun v11 =>
pLoad1 h v11 fun v12 =>
pInt .add a1 (.int .i64 (.ofNat 2)) fun v13 =>
pConvI .u64 a3 fun v14 =>
pShift .shl v14 (.int .u64 (.ofNat 1)) fun v15 =>
pNil a0 fun v16 =>
pFieldA v16 0 fun v17 =>
pLoad1 h v17 fun v18 =>
pInt .add a1 (.int .i64 (.ofNat 2)) fun v19 =>
pCall c (.fn 149 [] []) [v18, v19] h fun v20 h21 =>
pInt .and v20 (.int .u64 (.ofNat 1)) fun v22 =>
pInt .or v15 v22 fun v23 =>
pCall c (.fn 146 [] []) [v12, v13, v23] h21 fun _ h25 =>
pChk v11 none v12 h h21 h.nx <|
j9 (()) h25)
theorem S204_eq (c : CV) (a0 a1 a2 a3 : AV) (h : AH) : enterK Tryz.prog NN P204 c 204 [a0, a1, a2, a3] h = S204 c a0 a1 a2 a3 h := by kernel_rfl
def W204 (c : CV) (l : List AV) (h : AH) : R := match l with | [a0, a1, a2, a3] => S204 c a0 a1 a2 a3 h | _ => none
theorem W204_ok : WOk Tryz.prog 204 W204 := by
  intro c l h r e
  unfold W204 at e
  split at e
  · exact ⟨P204, by rw [S204_eq]; exact e⟩
  · cases e
/- (*quietus/tree.tree).red -/
def P205 : Pl := (.n none .z (.n none (.r [[16, 7]]) .z))
def S205 (c : CV) (a0 a1 : AV) (h : AH) : R :=
pInt .neq a1 (.int .i64 (.ofNat 0)) fun v0 =>
joinC (α := AV × AV × Unit → AH → R) (fun s1 h2 =>
pPick s1.2.1 s1.1 (.bool false) fun v4 =>
some (v4, h2)) fun j3 =>
pWant v0 true (
pNil a0 fun v5 =>
pFieldA v5 0 fun v6 =>
pLoad1 h v6 fun v7 =>
pInt .add a1 (.int .i64 (.ofNat 2)) fun v8 =>
pCall c (.fn 149 [] []) [v7, v8] h fun v9 h10 =>
pInt .and v9 (.int .u64 (.ofNat 1)) fun v11 =>
pInt .eql v11 (.int .u64 (.ofNat 1)) fun v12 =>
j3 (v12, v0, ()) h10) (
j3 (.undef, v0, ()) h)
theorem S205_eq (c : CV) (a0 a1 : AV) (h : AH) : enterK Tryz.prog NN P205 c 205 [a0, a1] h = S205 c a0 a1 h := by kernel_rfl
def W205 (c : CV) (l : List AV) (h : AH) : R := match l with | [a0, a1] => S205 c a0 a1 h | _ => none
theorem W205_ok : WOk Tryz.prog 205 W205 := by
  intro c l h r e
  unfold W205 at e
  split at e
  · exact ⟨P205, by rw [S205_eq]; exact e⟩
  · cases e
/- (*quietus/tree.tree).straight -/
def P206 : Pl := (.n none .z (.n (some [5, 0]) (.n none .z (.n none (.r [[5, 0]]) .z)) .z))
def S206 (c : CV) (a0 a1 a2 : AV) (h : AH) : R :=
pBox h 251 a1 fun v0 h1 =>
pBox h1 251 a2 fun v2 h3 =>
joinC (α := AV × AV × Unit → AH → List Nat → R) (fun s4 h5 d6 =>
pFieldA s4.1 0 fun v8 =>
pLoad1 h5 v8 fun v9 =>
pFieldA s4.1 1 fun v10 =>
pLoad1 h5 v10 fun v11 =>
pInt .sub (.int .i64 (.ofNat 1)) v11 fun v12 =>
pCall c (.fn 219 [] []) [s4.2.1, v9, v12] h5 fun v13 h14 =>
pCall c (.fn 207 [] []) [s4.2.1, v13, (.bool false)] h14 fun _ h16 =>
pFieldA s4.1 0 fun v17 =>
pLoad1 h16 v17 fun v18 =>
pCall c (.fn 207 [] []) [s4.2.1, v18, (.bool true)] h16 fun _ h20 =>
pNil s4.2.1 fun v21 =>
pFieldA v21 2 fun v22 =>
pLoad1 h20 v22 fun v23 =>
pLenS v23 fun v24 =>
pInt .sub v24 (.int .i64 (.ofNat 2)) fun v25 =>
pCall c (.fn 165 [] []) [s4.2.1, v25, v13] h20 fun _ h27 =>
pLeave d6 h27 fun h28 =>
some ((.tup []), h28)) fun j7 =>
pFieldA v0 1 fun v29 =>
pLoad1 h3 v29 fun v30 =>
pFieldA v2 1 fun v31 =>
pLoad1 h3 v31 fun v32 =>
pInt .neq v30 v32 fun v33 =>
pCond v33 (
joinC (α := AV × AV × Unit → AH → R) (fun s34 h35 =>
j7 (s34.1, s34.2.1, ()) h35 []) fun j36 =>
pFieldA v2 0 fun v37 =>
pLoad1 h3 v37 fun v38 =>
pFieldA v2 1 fun v39 =>
pLoad1 h3 v39 fun v40 =>
pFieldA v0 0 fun v41 =>
pLoad1 h3 v41 fun v42 =>
pFieldA v2 1 fun v43 =>
pLoad1 h3 v43 fun v44 =>
pCall c (.fn 219 [] []) [a0, v42, v44] h3 fun v45 h46 =>
pCall c (.fn 204 [] []) [a0, v38, v40, v45] h46 fun _ h48 =>
pChk v39 none v40 h3 h46 h3.nx <|
pChk v37 none v38 h3 h46 h3.nx <|
j36 (v2, a0, ()) h48) (
j7 (v2, a0, ()) h3 [])
theorem S206_eq (c : CV) (a0 a1 a2 : AV) (h : AH) : enterK Tryz.prog NN P206 c 206 [a0, a1, a2] h = S206 c a0 a1 a2 h := by kernel_rfl
def W206 (c : CV) (l : List AV) (h : AH) : R := match l with | [a0, a1, a2] => S206 c a0 a1 a2 h | _ => none
theorem W206_ok : WOk Tryz.prog 206 W206 := by
  intro c l h r e
  unfold W206 at e
  split at e
  · exact ⟨P206, by rw [S206_eq]; exact e⟩
  · cases e
/- (*quietus/tree.tree).paint -/
def P207 : Pl := .z
def S207 (c : CV) (a0 a1 a2 : AV) (h : AH) : R :=
pInt .eql a1 (.int .i64 (.ofNat 0)) fun v0 =>
pCond v0 (
pNil a0 fun v1 =>
pFieldA v1 0 fun v2 =>
pLoad1 h v2 fun v3 =>
pCall c (.fn 197 [] []) [v3, (.int .i64 (.ofNat 2))] h fun _ h5 =>
some ((.tup []), h5)) (
pNil a0 fun v6 =>
pFieldA v6 0 fun v7 =>
pLoad1 h v7 fun v8 =>
pInt .add a1 (.int .i64 (.ofNat 2)) fun v9 =>
pCall c (.fn 149 [] []) [v8, v9] h fun v10 h11 =>
pInt .and v10 (.int .u64 (.ofNat 1)) fun v12 =>
pInt .eql v12 (.int .u64 (.ofNat 1)) fun v13 =>
pEq .bool true v13 a2 fun v14 =>
pCond v14 (
pNil a0 fun v15 =>
pFieldA v15 0 fun v16 =>
pLoad1 h11 v16 fun v17 =>
pInt .add a1 (.int .i64 (.ofNat 2)) fun v18 =>
pInt .xor v10 (.int .u64 (.ofNat 1)) fun v19 =>
pCall c (.fn 146 [] []) [v17, v18, v19] h11 fun _ h21 =>
some ((.tup []), h21)) (
some ((.tup []), h11)))
theorem S207_eq (c : CV) (a0 a1 a2 : AV) (h : AH) : enterK Tryz.prog NN P207 c 207 [a0, a1, a2] h = S207 c a0 a1 a2 h := by kernel_rfl
def W207 (c : CV) (l : List AV) (h : AH) : R := match l with | [a0, a1, a2] => S207 c a0 a1 a2 h | _ => none
theorem W207_ok : WOk Tryz.prog 207 W207 := by
  intro c l h r e
  unfold W207 at e
  split at e
  · exact ⟨P207, by rw [S207_eq]; exact e⟩
  · cases e
/- (*quietus/tree.tree).heir -/
def P208 : Pl := (.n none .z (.n none .z (.n none .z (.n none (.n (some [1]) (.n (some [1, 0]) .z .z) .z) .z))))
def S208 (c : CV) (a0 a1 : AV) (h : AH) : R :=
pNil a0 fun v0 =>
pFieldA v0 2 fun v1 =>
pLoad1 h v1 fun v2 =>
pBuild [(.int .i64 (.ofNat 0)), (.int .i64 (.ofNat 0))] [(0, 1, a1), (1, 1, (.int .i64 (.ofNat 1)))] fun v3 =>
pBuildS h 251 [(.int .i64 (.ofNat 0)), (.int .i64 (.ofNat 0))] 1 [(0, 2, v3)] fun v4 h5 =>
pAppend h5 251 2 v2 v4 fun v6 h7 =>
pNil a0 fun v8 =>
pFieldA v8 2 fun v9 =>
pStore h7 v9 v6 1 fun h10 =>
pCall c (.fn 203 [] []) [a0, a1, (.int .i64 (.ofNat 1))] h10 fun v11 h12 =>
joinC (α := AV × Unit → AH → List Nat → R) (fun s13 h14 d15 =>
pLeave d15 h14 fun h17 =>
some (s13.1, h17)) fun j16 =>
loopC (σ := AV × AV × Unit) NN (fun i21 s18 h19 d20 =>
pNil s18.2.1 fun v22 =>
pFieldA v22 0 fun v23 =>
pLoad1 h19 v23 fun v24 =>
pCall c (.fn 195 [] []) [v24] h19 fun v25 h26 =>
pCond v25 (
pCall c (.fn 203 [] []) [s18.2.1, s18.1, (.int .i64 (.ofNat 0))] h26 fun v27 h28 =>
pInt .eql v27 (.int .i64 (.ofNat 0)) fun v29 =>
pCond v29 (
j16 (s18.1, ()) h28 d20) (
pNil s18.2.1 fun v30 =>
pFieldA v30 2 fun v31 =>
pLoad1 h28 v31 fun v32 =>
pBuild [(.int .i64 (.ofNat 0)), (.int .i64 (.ofNat 0))] [(0, 1, s18.1), (1, 1, (.int .i64 (.ofNat 0)))] fun v33 =>
pBuildS h28 251 [(.int .i64 (.ofNat 0)), (.int .i64 (.ofNat 0))] 1 [(0, 2, v33)] fun v34 h35 =>
pAppend h35 251 2 v32 v34 fun v36 h37 =>
pNil s18.2.1 fun v38 =>
pFieldA v38 2 fun v39 =>
pStore h37 v39 v36 1 fun h40 =>
i21 (v27, s18.2.1, ()) h40 d20)) (
j16 (s18.1, ()) h26 d20)) (v11, a0, ()) h12 []
theorem S208_eq (c : CV) (a0 a1 : AV) (h : AH) : enterK Tryz.prog NN P208 c 208 [a0, a1] h = S208 c a0 a1 h := by kernel_rfl
def W208 (c : CV) (l : List AV) (h : AH) : R := match l with | [a0, a1] => S208 c a0 a1 h | _ => none
theorem W208_ok : WOk Tryz.prog 208 W208 := by
  intro c l h r e
  unfold W208 at e
  split at e
  · exact ⟨P208, by rw [S208_eq]; exact e⟩
  · cases e
/- (*quietus/tree.tree).lowered -/
def P209 : Pl := (.n none (.n (some [0]) (.n none (.n none (.r [[16, 11, 0]]) .z) (.n (some [0]) (.n none .z (.n none .z (.n none .z (.n none .z (.n none (.n none (.r [[90, 85, 4, 3, 2, 0]]) .z) .z))))) .z)) .z) .z)
def S209 (c : CV) (a0 : AV) (h : AH) : R :=
loopC (σ := AV × Unit) NN (fun i3 s0 h1 d2 =>
pNil s0.1 fun v4 =>
pFieldA v4 2 fun v5 =>
pLoad1 h1 v5 fun v6 =>
pLenS v6 fun v7 =>
pInt .gtr v7 (.int .i64 (.ofNat 0)) fun v8 =>
joinC (α := AV × AV × AV × Unit → AH → R) (fun s9 h10 =>
pPick s9.2.1 s9.1 (.bool false) fun v12 =>
pCond v12 (
joinC (α := AV × Unit → AH → List Nat → R) (fun s13 h14 d15 =>
i3 (s13.1, ()) h14 d15) fun j16 =>
pNil s9.2.2.1 fun v17 =>
pFieldA v17 2 fun v18 =>
pLoad1 h10 v18 fun v19 =>
pLenS v19 fun v20 =>
pNil s9.2.2.1 fun v21 =>
pFieldA v21 2 fun v22 =>
pLoad1 h10 v22 fun v23 =>
pInt .sub v20 (.int .i64 (.ofNat 1)) fun v24 =>
pIdxS v23 v24 2 fun v25 =>
pLoadN h10 v25 2 fun v26 =>
pBox h10 251 (.agg [(.int .i64 (.ofNat 0)), (.int .i64 (.ofNat 0))]) fun v27 h28 =>
pStore h28 v27 v26 2 fun h29 =>
pFieldA v27 0 fun v30 =>
pLoad1 h29 v30 fun v31 =>
pFieldA v27 1 fun v32 =>
pLoad1 h29 v32 fun v33 =>
pInt .sub (.int .i64 (.ofNat 1)) v33 fun v34 =>
pCall c (.fn 203 [] []) [s9.2.2.1, v31, v34] h29 fun v35 h36 =>
pCall c (.fn 205 [] []) [s9.2.2.1, v35] h36 fun v37 h38 =>
pCond v37 (
pFieldA v27 0 fun v39 =>
pLoad1 h38 v39 fun v40 =>
pFieldA v27 1 fun v41 =>
pLoad1 h38 v41 fun v42 =>
pCall c (.fn 219 [] []) [s9.2.2.1, v40, v42] h38 fun _ h44 =>
pCall c (.fn 207 [] []) [s9.2.2.1, v35, (.bool false)] h44 fun _ h46 =>
pFieldA v27 0 fun v47 =>
pLoad1 h46 v47 fun v48 =>
pCall c (.fn 207 [] []) [s9.2.2.1, v48, (.bool true)] h46 fun _ h50 =>
pInt .sub v20 (.int .i64 (.ofNat 1)) fun v51 =>
pCall c (.fn 165 [] []) [s9.2.2.1, v51, v35] h50 fun _ h53 =>
pNil s9.2.2.1 fun v54 =>
pFieldA v54 2 fun v55 =>
pLoad1 h53 v55 fun v56 =>
pInt .sub v20 (.int .i64 (.ofNat 1)) fun v57 =>
pFieldA v27 1 fun v58 =>
pLoad1 h53 v58 fun v59 =>
pBuild [(.int .i64 (.ofNat 0)), (.int .i64 (.ofNat 0))] [(0, 1, v35), (1, 1, v59)] fun v60 =>
pIdxS v56 v57 2 fun v61 =>
pStore h53 v61 v60 2 fun h62 =>
pNil s9.2.2.1 fun v63 =>
pFieldA v63 2 fun v64 =>
pLoad1 h62 v64 fun v65 =>
pLoadN h62 v27 2 fun v66 =>
pBuildS h62 251 [(.int .i64 (.ofNat 0)), (.int .i64 (.ofNat 0))] 1 [(0, 2, v66)] fun v67 h68 =>
pAppend h68 251 2 v65 v67 fun v69 h70 =>
pNil s9.2.2.1 fun v71 =>
pFieldA v71 2 fun v72 =>
pStore h70 v72 v69 1 fun h73 =>
j16 (s9.2.2.1, ()) h73 d2) (
pCall c (.fn 203 [] []) [s9.2.2.1, v35, (.int .i64 (.ofNat 0))] h38 fun v74 h75 =>
pCall c (.fn 205 [] []) [s9.2.2.1, v74] h75 fun v76 h77 =>
joinC (α := AV × AV × AV × AV × AV × AV × Unit → AH → R) (fun s78 h79 =>
pPick s78.2.1 (.bool true) s78.1 fun v81 =>
pCond v81 (
pLoadN h79 s78.2.2.2.1 2 fun v82 =>
pCall c (.fn 220 [] []) [s78.2.2.2.2.2.1, v82, s78.2.2.1] h79 fun _ h84 =>
pLeave d2 h84 fun h85 =>
some ((.tup []), h85)) (
pCall c (.fn 207 [] []) [s78.2.2.2.2.2.1, s78.2.2.1, (.bool true)] h79 fun _ h87 =>
pFieldA s78.2.2.2.1 0 fun v88 =>
pLoad1 h87 v88 fun v89 =>
pCall c (.fn 205 [] []) [s78.2.2.2.2.2.1, v89] h87 fun v90 h91 =>
pCond v90 (
pFieldA s78.2.2.2.1 0 fun v92 =>
pLoad1 h91 v92 fun v93 =>
pCall c (.fn 207 [] []) [s78.2.2.2.2.2.1, v93, (.bool false)] h91 fun _ h95 =>
pLeave d2 h95 fun h96 =>
some ((.tup []), h96)) (
pNil s78.2.2.2.2.2.1 fun v97 =>
pFieldA v97 2 fun v98 =>
pLoad1 h91 v98 fun v99 =>
pInt .sub s78.2.2.2.2.1 (.int .i64 (.ofNat 1)) fun v100 =>
pSlice h91 251 2 v99 none (some v100) fun v101 =>
pNil s78.2.2.2.2.2.1 fun v102 =>
pFieldA v102 2 fun v103 =>
pStore h91 v103 v101 1 fun h104 =>
j16 (s78.2.2.2.2.2.1, ()) h104 d2))) fun j80 =>
pWant v76 false (
pCall c (.fn 203 [] []) [s9.2.2.1, v35, (.int .i64 (.ofNat 1))] h77 fun v105 h106 =>
pCall c (.fn 205 [] []) [s9.2.2.1, v105] h106 fun v107 h108 =>
j80 (v107, v76, v35, v27, v20, s9.2.2.1, ()) h108) (
j80 (.undef, v76, v35, v27, v20, s9.2.2.1, ()) h77))) (
pLeave d2 h10 fun h109 =>
some ((.tup []), h109))) fun j11 =>
pWant v8 true (
pNil s0.1 fun v110 =>
pFieldA v110 0 fun v111 =>
pLoad1 h1 v111 fun v112 =>
pCall c (.fn 195 [] []) [v112] h1 fun v113 h114 =>
j11 (v113, v8, s0.1, ()) h114) (
j11 (.undef, v8, s0.1, ()) h1)) (a0, ()) h []
theorem S209_eq (c : CV) (a0 : AV) (h : AH) : enterK Tryz.prog NN P209 c 209 [a0] h = S209 c a0 h := by kernel_rfl
def W209 (c : CV) (l : List AV) (h : AH) : R := match l with | [a0] => S209 c a0 h | _ => none
theorem W209_ok : WOk Tryz.prog 209 W209 := by
  intro c l h r e
  unfold W209 at e
  split at e
  · exact ⟨P209, by rw [S209_eq]; exact e⟩
  · cases e
/- (*quietus/levels.Levels).Free -/
def P210 : Pl := .z
def S210 (c : CV) (a0 a1 : AV) (h : AH) : R :=
pCall c (.fn 96 [] []) [a0] h fun v0 h1 =>
pNil v0 fun v2 =>
pFieldA v2 1 fun v3 =>
pLoad1 h1 v3 fun v4 =>
pBuildS h1 3 [(.int .i64 (.ofNat 0))] 1 [(0, 1, a1)] fun v5 h6 =>
pAppend h6 3 1 v4 v5 fun v7 h8 =>
pNil v0 fun v9 =>
pFieldA v9 1 fun v10 =>
pStore h8 v10 v7 1 fun h11 =>
some ((.tup []), h11)
theorem S210_eq (c : CV) (a0 a1 : AV) (h : AH) : enterK Tryz.prog NN P210 c 210 [a0, a1] h = S210 c a0 a1 h := by kernel_rfl
def W210 (c : CV) (l : List AV) (h : AH) : R := match l with | [a0, a1] => S210 c a0 a1 h | _ => none
theorem W210_ok : WOk Tryz.prog 210 W210 := by
  intro c l h r e
  unfold W210 at e
  split at e
  · exact ⟨P210, by rw [S210_eq]; exact e⟩
  · cases e
/- (*quietus/levels.Levels).Open -/
def P211 : Pl := (.n none .z (.n none .z (.n none (.r [[]]) .z)))
def S211 (c : CV) (a0 : AV) (h : AH) : R :=
pNil a0 fun v0 =>
pFieldA v0 1 fun v1 =>
pLoad1 h v1 fun v2 =>
pLenS v2 fun v3 =>
pInt .geq v3 (.int .i64 (.ofNat 6)) fun v4 =>
pCond v4 (
some ((.int .i64 (.ofNat 9)), h)) (
joinC (α := Unit → AH → R) (fun _ h6 =>
some ((.int .i64 (.ofNat 0)), h6)) fun j7 =>
pNil a0 fun v8 =>
pFieldA v8 1 fun v9 =>
pLoad1 h v9 fun v10 =>
pCall c (.fn 94 [] []) [] h fun v11 h12 =>
pBuildS h12 150 [.nilp] 1 [(0, 1, v11)] fun v13 h14 =>
pAppend h14 150 1 v10 v13 fun v15 h16 =>
pNil a0 fun v17 =>
pFieldA v17 1 fun v18 =>
pStore h16 v18 v15 1 fun h19 =>
pChk v9 none v10 h h12 h.nx <|
j7 (()) h19)
theorem S211_eq (c : CV) (a0 : AV) (h : AH) : enterK Tryz.prog NN P211 c 211 [a0] h = S211 c a0 h := by kernel_rfl
def W211 (c : CV) (l : List AV) (h : AH) : R := match l with | [a0] => S211 c a0 h | _ => none
theorem W211_ok : WOk Tryz.prog 211 W211 := by
  intro c l h r e
  unfold W211 at e
  split at e
  · exact ⟨P211, by rw [S211_eq]; exact e⟩
  · cases e
/- internal/strconv.log10Pow2 -/
def P212 : Pl := .z
def S212 (_ : CV) (a0 : AV) (h : AH) : R :=
pInt .mul a0 (.int .i64 (.ofNat 78913)) fun v0 =>
pShift .shr v0 (.int .u64 (.ofNat 18)) fun v1 =>
some (v1, h)
theorem S212_eq (c : CV) (a0 : AV) (h : AH) : enterK Tryz.prog NN P212 c 212 [a0] h = S212 c a0 h := by kernel_rfl
def W212 (c : CV) (l : List AV) (h : AH) : R := match l with | [a0] => S212 c a0 h | _ => none
theorem W212_ok : WOk Tryz.prog 212 W212 := by
  intro c l h r e
  unfold W212 at e
  split at e
  · exact ⟨P212, by rw [S212_eq]; exact e⟩
  · cases e
/- math/bits.Len64 -/
def P213 : Pl := (.n none .z (.n (some [2, 0]) .z (.n (some [2, 0]) .z (.n (some [2, 0]) .z .z))))
def S213 (_ : CV) (a0 : AV) (h : AH) : R :=
joinC (α := AV × AV × Unit → AH → List Nat → R) (fun s0 h1 d2 =>
joinC (α := AV × AV × Unit → AH → List Nat → R) (fun s4 h5 d6 =>
joinC (α := AV × AV × Unit → AH → List Nat → R) (fun s8 h9 d10 =>
pConvI .u8 s8.2.1 fun v12 =>
pIdxStr (.str [0, 1, 2, 2, 3, 3, 3, 3, 4, 4, 4, 4, 4, 4, 4, 4, 5, 5, 5, 5, 5, 5, 5, 5, 5, 5, 5, 5, 5, 5, 5, 5, 6, 6, 6, 6, 6, 6, 6, 6, 6, 6, 6, 6, 6, 6, 6, 6, 6, 6, 6, 6, 6, 6, 6, 6, 6, 6, 6, 6, 6, 6, 6, 6, 7, 7, 7, 7, 7, 7, 7, 7, 7, 7, 7, 7, 7, 7, 7, 7, 7, 7, 7, 7, 7, 7, 7, 7, 7, 7, 7, 7, 7, 7, 7, 7, 7, 7, 7, 7, 7, 7, 7, 7, 7, 7, 7, 7, 7, 7, 7, 7, 7, 7, 7, 7, 7, 7, 7, 7, 7, 7, 7, 7, 7, 7, 7, 7, 8, 8, 8, 8, 8, 8, 8, 8, 8, 8, 8, 8, 8, 8, 8, 8, 8, 8, 8, 8, 8, 8, 8, 8, 8, 8, 8, 8, 8, 8, 8, 8, 8, 8, 8, 8, 8, 8, 8, 8, 8, 8, 8, 8, 8, 8, 8, 8, 8, 8, 8, 8, 8, 8, 8, 8, 8, 8, 8, 8, 8, 8, 8, 8, 8, 8, 8, 8, 8, 8, 8, 8, 8, 8, 8, 8, 8, 8, 8, 8, 8, 8, 8, 8, 8, 8, 8, 8, 8, 8, 8, 8, 8, 8, 8, 8, 8, 8, 8, 8, 8, 8, 8, 8, 8, 8, 8, 8, 8, 8, 8, 8, 8, 8, 8, 8, 8, 8, 8, 8, 8, 8, 8, 8, 8, 8, 8, 8]) v12 fun v13 =>
pConvI .i64 v13 fun v14 =>
pInt .add s8.1 v14 fun v15 =>
pLeave d10 h9 fun h16 =>
some (v15, h16)) fun j11 =>
pInt .geq s4.2.1 (.int .u64 (.ofNat 256)) fun v17 =>
pCond v17 (
pShift .shr s4.2.1 (.int .u64 (.ofNat 8)) fun v18 =>
pInt .add s4.1 (.int .i64 (.ofNat 8)) fun v19 =>
j11 (v19, v18, ()) h5 d6) (
j11 (s4.1, s4.2.1, ()) h5 d6)) fun j7 =>
pInt .geq s0.2.1 (.int .u64 (.ofNat 65536)) fun v20 =>
pCond v20 (
pShift .shr s0.2.1 (.int .u64 (.ofNat 16)) fun v21 =>
pInt .add s0.1 (.int .i64 (.ofNat 16)) fun v22 =>
j7 (v22, v21, ()) h1 d2) (
j7 (s0.1, s0.2.1, ()) h1 d2)) fun j3 =>
pInt .geq a0 (.int .u64 (.ofNat 4294967296)) fun v23 =>
pCond v23 (
pShift .shr a0 (.int .u64 (.ofNat 32)) fun v24 =>
j3 ((.int .i64 (.ofNat 32)), v24, ()) h []) (
j3 ((.int .i64 (.ofNat 0)), a0, ()) h [])
theorem S213_eq (c : CV) (a0 : AV) (h : AH) : enterK Tryz.prog NN P213 c 213 [a0] h = S213 c a0 h := by kernel_rfl
def W213 (c : CV) (l : List AV) (h : AH) : R := match l with | [a0] => S213 c a0 h | _ => none
theorem W213_ok : WOk Tryz.prog 213 W213 := by
  intro c l h r e
  unfold W213 at e
  split at e
  · exact ⟨P213, by rw [S213_eq]; exact e⟩
  · cases e
/- internal/strconv.bool2[int] -/
def P214 : Pl := .z
def S214 (_ : CV) (a0 : AV) (h : AH) : R :=
pCond a0 (
some ((.int .i64 (.ofNat 1)), h)) (
some ((.int .i64 (.ofNat 0)), h))
theorem S214_eq (c : CV) (a0 : AV) (h : AH) : enterK Tryz.prog NN P214 c 214 [a0] h = S214 c a0 h := by kernel_rfl
def W214 (c : CV) (l : List AV) (h : AH) : R := match l with | [a0] => S214 c a0 h | _ => none
theorem W214_ok : WOk Tryz.prog 214 W214 := by
  intro c l h r e
  unfold W214 at e
  split at e
  · exact ⟨P214, by rw [S214_eq]; exact e⟩
  · cases e
/- internal/strconv.isPowerOfTwo -/
def P215 : Pl := .z
def S215 (_ : CV) (a0 : AV) (h : AH) : R :=
pInt .sub a0 (.int .i64 (.ofNat 1)) fun v0 =>
pInt .and a0 v0 fun v1 =>
pInt .eql v1 (.int .i64 (.ofNat 0)) fun v2 =>
some (v2, h)
theorem S215_eq (c : CV) (a0 : AV) (h : AH) : enterK Tryz.prog NN P215 c 215 [a0] h = S215 c a0 h := by kernel_rfl
def W215 (c : CV) (l : List AV) (h : AH) : R := match l with | [a0] => S215 c a0 h | _ => none
theorem W215_ok : WOk Tryz.prog 215 W215 := by
  intro c l h r e
  unfold W215 at e
  split at e
  · exact ⟨P215, by rw [S215_eq]; exact e⟩
  · cases e
/- math/bits.TrailingZeros -/
def P216 : Pl := .z
def S216 (c : CV) (a0 : AV) (h : AH) : R :=
pCond (.bool false) (
pConvI .u32 a0 fun v0 =>
pCall c (.fn 221 [] []) [v0] h fun v1 h2 =>
some (v1, h2)) (
pCall c (.fn 222 [] []) [a0] h fun v3 h4 =>
some (v3, h4))
theorem S216_eq (c : CV) (a0 : AV) (h : AH) : enterK Tryz.prog NN P216 c 216 [a0] h = S216 c a0 h := by kernel_rfl
def W216 (c : CV) (l : List AV) (h : AH) : R := match l with | [a0] => S216 c a0 h | _ => none
theorem W216_ok : WOk Tryz.prog 216 W216 := by
  intro c l h r e
  unfold W216 at e
  split at e
  · exact ⟨P216, by rw [S216_eq]; exact e⟩
  · cases e
/- (*quietus/view.View).Known -/
def P217 : Pl := (.n none .z (.n none .z (.n none (.n none .z (.n none (.n (some [17, 16, 15, 3, 0]) .z .z) .z)) .z)))
def S217 (_ : CV) (a0 : AV) (h : AH) : R :=
pNil a0 fun v0 =>
pFieldA v0 1 fun v1 =>
pLoad1 h v1 fun v2 =>
pLenS v2 fun v3 =>
pMake h 35 [(.int .i64 (.ofNat 0)), (.int .u64 (.ofNat 0))] (.int .i64 (.ofNat 0)) v3 fun v4 h5 =>
pNil a0 fun v6 =>
pFieldA v6 1 fun v7 =>
pLoad1 h5 v7 fun v8 =>
pLenS v8 fun v9 =>
loopC (σ := AV × AV × AV × AV × AV × Unit) NN (fun i13 s10 h11 d12 =>
pInt .lss s10.1 s10.2.1 fun v14 =>
pCond v14 (
pIdxS s10.2.2.1 s10.1 1 fun v15 =>
pLoad1 h11 v15 fun v16 =>
pNil s10.2.2.2.2.1 fun v17 =>
pFieldA v17 0 fun v18 =>
pLoad1 h11 v18 fun v19 =>
pIdxS v19 v16 2 fun v20 =>
pFieldA v20 0 fun v21 =>
pLoad1 h11 v21 fun v22 =>
pBuild [(.int .i64 (.ofNat 0)), (.int .u64 (.ofNat 0))] [(0, 1, v16), (1, 1, v22)] fun v23 =>
pBuildS h11 35 [(.int .i64 (.ofNat 0)), (.int .u64 (.ofNat 0))] 1 [(0, 2, v23)] fun v24 h25 =>
pAppend h25 35 2 s10.2.2.2.1 v24 fun v26 h27 =>
pInt .add s10.1 (.int .i64 (.ofNat 1)) fun v28 =>
i13 (v28, s10.2.1, s10.2.2.1, v26, s10.2.2.2.2.1, ()) h27 d12) (
pLeave d12 h11 fun h29 =>
some (s10.2.2.2.1, h29))) ((.int .i64 (.ofNat 0)), v9, v8, v4, a0, ()) h5 []
theorem S217_eq (c : CV) (a0 : AV) (h : AH) : enterK Tryz.prog NN P217 c 217 [a0] h = S217 c a0 h := by kernel_rfl
def W217 (c : CV) (l : List AV) (h : AH) : R := match l with | [a0] => S217 c a0 h | _ => none
theorem W217_ok : WOk Tryz.prog 217 W217 := by
  intro c l h r e
  unfold W217 at e
  split at e
  · exact ⟨P217, by rw [S217_eq]; exact e⟩
  · cases e
/- (*quietus/draft.Draft).Name -/
def P218 : Pl := .z
def S218 (c : CV) (a0 a1 : AV) (h : AH) : R :=
pInt .geq a1 (.int .u64 (.ofNat 2147483648)) fun v0 =>
pCond v0 (
pCall c (.fn 197 [] []) [a0, (.int .i64 (.ofNat 2))] h fun _ h2 =>
some ((.int .i64 (.ofNat 0)), h2)) (
pConvI .i64 a1 fun v3 =>
some (v3, h))
theorem S218_eq (c : CV) (a0 a1 : AV) (h : AH) : enterK Tryz.prog NN P218 c 218 [a0, a1] h = S218 c a0 a1 h := by kernel_rfl
def W218 (c : CV) (l : List AV) (h : AH) : R := match l with | [a0, a1] => S218 c a0 a1 h | _ => none
theorem W218_ok : WOk Tryz.prog 218 W218 := by
  intro c l h r e
  unfold W218 at e
  split at e
  · exact ⟨P218, by rw [S218_eq]; exact e⟩
  · cases e
/- (*quietus/tree.tree).turn -/
def P219 : Pl := .z
def S219 (c : CV) (a0 a1 a2 : AV) (h : AH) : R :=
pInt .sub (.int .i64 (.ofNat 1)) a2 fun v0 =>
pCall c (.fn 203 [] []) [a0, a1, v0] h fun v1 h2 =>
pInt .sub (.int .i64 (.ofNat 1)) a2 fun v3 =>
pCall c (.fn 203 [] []) [a0, v1, a2] h2 fun v4 h5 =>
pCall c (.fn 204 [] []) [a0, a1, v3, v4] h5 fun _ h7 =>
pCall c (.fn 204 [] []) [a0, v1, a2, a1] h7 fun _ h9 =>
some (v1, h9)
theorem S219_eq (c : CV) (a0 a1 a2 : AV) (h : AH) : enterK Tryz.prog NN P219 c 219 [a0, a1, a2] h = S219 c a0 a1 a2 h := by kernel_rfl
def W219 (c : CV) (l : List AV) (h : AH) : R := match l with | [a0, a1, a2] => S219 c a0 a1 a2 h | _ => none
theorem W219_ok : WOk Tryz.prog 219 W219 := by
  intro c l h r e
  unfold W219 at e
  split at e
  · exact ⟨P219, by rw [S219_eq]; exact e⟩
  · cases e
/- (*quietus/tree.tree).lent -/
def P220 : Pl := (.n none .z (.n (some [4, 2, 0]) .z .z))
def S220 (c : CV) (a0 a1 a2 : AV) (h : AH) : R :=
pBox h 251 a1 fun v0 h1 =>
joinC (α := AV × AV × AV × Unit → AH → List Nat → R) (fun s2 h3 d4 =>
pFieldA s2.1 0 fun v6 =>
pLoad1 h3 v6 fun v7 =>
pFieldA s2.1 1 fun v8 =>
pLoad1 h3 v8 fun v9 =>
pCall c (.fn 219 [] []) [s2.2.2.1, v7, v9] h3 fun _ h11 =>
pFieldA s2.1 0 fun v12 =>
pLoad1 h11 v12 fun v13 =>
pCall c (.fn 205 [] []) [s2.2.2.1, v13] h11 fun v14 h15 =>
pCall c (.fn 207 [] []) [s2.2.2.1, s2.2.1, v14] h15 fun _ h17 =>
pFieldA s2.1 0 fun v18 =>
pLoad1 h17 v18 fun v19 =>
pCall c (.fn 207 [] []) [s2.2.2.1, v19, (.bool false)] h17 fun _ h21 =>
pFieldA s2.1 1 fun v22 =>
pLoad1 h21 v22 fun v23 =>
pInt .sub (.int .i64 (.ofNat 1)) v23 fun v24 =>
pCall c (.fn 203 [] []) [s2.2.2.1, s2.2.1, v24] h21 fun v25 h26 =>
pCall c (.fn 207 [] []) [s2.2.2.1, v25, (.bool false)] h26 fun _ h28 =>
pNil s2.2.2.1 fun v29 =>
pFieldA v29 2 fun v30 =>
pLoad1 h28 v30 fun v31 =>
pLenS v31 fun v32 =>
pInt .sub v32 (.int .i64 (.ofNat 1)) fun v33 =>
pCall c (.fn 165 [] []) [s2.2.2.1, v33, s2.2.1] h28 fun _ h35 =>
pLeave d4 h35 fun h36 =>
some ((.tup []), h36)) fun j5 =>
pFieldA v0 1 fun v37 =>
pLoad1 h1 v37 fun v38 =>
pInt .sub (.int .i64 (.ofNat 1)) v38 fun v39 =>
pCall c (.fn 203 [] []) [a0, a2, v39] h1 fun v40 h41 =>
pCall c (.fn 205 [] []) [a0, v40] h41 fun v42 h43 =>
pUn .not v42 fun v44 =>
pCond v44 (
pFieldA v0 1 fun v45 =>
pLoad1 h43 v45 fun v46 =>
pInt .sub (.int .i64 (.ofNat 1)) v46 fun v47 =>
pCall c (.fn 219 [] []) [a0, a2, v47] h43 fun v48 h49 =>
pFieldA v0 0 fun v50 =>
pLoad1 h49 v50 fun v51 =>
pFieldA v0 1 fun v52 =>
pLoad1 h49 v52 fun v53 =>
pInt .sub (.int .i64 (.ofNat 1)) v53 fun v54 =>
pCall c (.fn 204 [] []) [a0, v51, v54, v48] h49 fun _ h56 =>
pCall c (.fn 207 [] []) [a0, v48, (.bool false)] h56 fun _ h58 =>
pCall c (.fn 207 [] []) [a0, a2, (.bool true)] h58 fun _ h60 =>
j5 (v0, v48, a0, ()) h60 []) (
j5 (v0, a2, a0, ()) h43 [])
theorem S220_eq (c : CV) (a0 a1 a2 : AV) (h : AH) : enterK Tryz.prog NN P220 c 220 [a0, a1, a2] h = S220 c a0 a1 a2 h := by kernel_rfl
def W220 (c : CV) (l : List AV) (h : AH) : R := match l with | [a0, a1, a2] => S220 c a0 a1 a2 h | _ => none
theorem W220_ok : WOk Tryz.prog 220 W220 := by
  intro c l h r e
  unfold W220 at e
  split at e
  · exact ⟨P220, by rw [S220_eq]; exact e⟩
  · cases e
/- math/bits.TrailingZeros32 -/
def P221 : Pl := .z
def S221 (_ : CV) (a0 : AV) (h : AH) : R :=
pInt .eql a0 (.int .u32 (.ofNat 0)) fun v0 =>
pCond v0 (
some ((.int .i64 (.ofNat 32)), h)) (
pUn .neg a0 fun v1 =>
pInt .and a0 v1 fun v2 =>
pInt .mul v2 (.int .u32 (.ofNat 125613361)) fun v3 =>
pShift .shr v3 (.int .u64 (.ofNat 27)) fun _ =>
none /- op -/)
theorem S221_eq (c : CV) (a0 : AV) (h : AH) : enterK Tryz.prog NN P221 c 221 [a0] h = S221 c a0 h := by kernel_rfl
def W221 (c : CV) (l : List AV) (h : AH) : R := match l with | [a0] => S221 c a0 h | _ => none
theorem W221_ok : WOk Tryz.prog 221 W221 := by
  intro c l h r e
  unfold W221 at e
  split at e
  · exact ⟨P221, by rw [S221_eq]; exact e⟩
  · cases e
/- math/bits.TrailingZeros64 -/
def P222 : Pl := .z
def S222 (_ : CV) (a0 : AV) (h : AH) : R :=
pInt .eql a0 (.int .u64 (.ofNat 0)) fun v0 =>
pCond v0 (
some ((.int .i64 (.ofNat 64)), h)) (
pUn .neg a0 fun v1 =>
pInt .and a0 v1 fun v2 =>
pInt .mul v2 (.int .u64 (.ofNat 285870213051353865)) fun v3 =>
pShift .shr v3 (.int .u64 (.ofNat 58)) fun _ =>
none /- op -/)
theorem S222_eq (c : CV) (a0 : AV) (h : AH) : enterK Tryz.prog NN P222 c 222 [a0] h = S222 c a0 h := by kernel_rfl
def W222 (c : CV) (l : List AV) (h : AH) : R := match l with | [a0] => S222 c a0 h | _ => none
theorem W222_ok : WOk Tryz.prog 222 W222 := by
  intro c l h r e
  unfold W222 at e
  split at e
  · exact ⟨P222, by rw [S222_eq]; exact e⟩
  · cases e
/- (*quietus/levels.Levels).Cells: a round -/
def Q0 : Pl := (.n none .z .z)
def B0 (c : CV) (l : Nat) (v0 _ a1 : AV) (h : AH) : R :=
pBegin h l fun h100 =>
pCall c (.fn 74 [] []) [(.int .i64 (.ofNat 96))] h100 fun v101 h102 =>
pNil a1 fun v103 =>
pFieldA v103 0 fun v104 =>
pLoad1 h102 v104 fun v105 =>
pCall c (.fn 76 [] []) [v105] h102 fun v106 h107 =>
pCall c (.fn 75 [] []) [v101, v106] h107 fun _ h109 =>
pLoad1 h109 v0 fun v110 =>
pCall c (.fn 75 [] []) [v101, v110] h109 fun _ h112 =>
pCall c (.fn 76 [] []) [v101] h112 fun v113 h114 =>
pStore h114 v0 v113 1 fun h115 =>
pEndRound h115 l none
theorem B0_eq (c : CV) (l : Nat) (v0 a0 a1 : AV) (h : AH) : roundK Tryz.prog NN Q0 c 58 [1, 1, 0, 1, 0] [3] l [v0] [a0, a1] h = B0 c l v0 a0 a1 h := by kernel_rfl
def V0 (c : CV) (l : Nat) (x y : List AV) (h : AH) : R := match x, y with | [v0], [a0, a1] => B0 c l v0 a0 a1 h | _, _ => none
theorem V0_ok : VOk Tryz.prog 58 [1, 1, 0, 1, 0] [3] V0 := by
  intro c l x y h r e
  unfold V0 at e
  split at e
  · exact ⟨Q0, by rw [B0_eq]; exact e⟩
  · cases e
/- (*quietus/levels.Levels).Get: a round -/
def Q1 : Pl := (.n none .z .z)
def B1 (c : CV) (l : Nat) (v0 v1 v2 _ a1 : AV) (h : AH) : R :=
pBegin h l fun h100 =>
pNil a1 fun v101 =>
pFieldA v101 0 fun v102 =>
pLoad1 h100 v102 fun v103 =>
pLoad1 h100 v2 fun v104 =>
pCall c (.fn 95 [] []) [v103, v104] h100 fun v105 h106 =>
pExtract v105 0 fun v107 =>
pExtract v105 1 fun v108 =>
pCond v108 (
pStore h106 v1 v107 1 fun h109 =>
pStore h109 v0 (.bool true) 1 fun h110 =>
pEndRound h110 l (some .ret)) (
pEndRound h106 l none)
theorem B1_eq (c : CV) (l : Nat) (v0 v1 v2 a0 a1 : AV) (h : AH) : roundK Tryz.prog NN Q1 c 71 [1, 0, 1, 0] [5, 4, 3] l [v0, v1, v2] [a0, a1] h = B1 c l v0 v1 v2 a0 a1 h := by kernel_rfl
def V1 (c : CV) (l : Nat) (x y : List AV) (h : AH) : R := match x, y with | [v0, v1, v2], [a0, a1] => B1 c l v0 v1 v2 a0 a1 h | _, _ => none
theorem V1_ok : VOk Tryz.prog 71 [1, 0, 1, 0] [5, 4, 3] V1 := by
  intro c l x y h r e
  unfold V1 at e
  split at e
  · exact ⟨Q1, by rw [B1_eq]; exact e⟩
  · cases e
end
end Go.Proofs.YtcmjgcfkhommkaaGreatDoor
