/- Printed by a program of mine: the bodies of the program's functions aa terms of the primitives of the abstract executor, each shown equal by the kernel. -/
import Derived.Test.YtdhleiohmbphgaaGreatDoorProg
import Derived.Test.YtdhleiohmbphgaaGreatDoorAe1
import Derived.KernelRfl
namespace Go.Proofs.YtdhleiohmbphgaaGreatDoor
open Go Go.Ae
set_option maxRecDepth 100000
noncomputable section
/- quietus/code.named -/
def P150 : Pl := (.n none .z (.n none (.n none (.r [[11, 7, 1, 0]]) .z) .z))
def S150 (_ : CV) (a0 a1 : AV) (h : AH) : R :=
pInt .lss a1 (.int .i64 (.ofNat 0)) fun v0 =>
joinC (α := AV × AV × AV × AV × Unit → AH → R) (fun s1 h2 =>
pPick s1.2.1 (.bool true) s1.1 fun v4 =>
pCond v4 (
some ((.str []), h2)) (
pIdxS s1.2.2.2.1 s1.2.2.1 1 fun v5 =>
pLoad1 h2 v5 fun v6 =>
some (v6, h2))) fun j3 =>
pWant v0 false (
pLenS a0 fun v7 =>
pInt .geq a1 v7 fun v8 =>
j3 (v8, v0, a1, a0, ()) h) (
j3 (.undef, v0, a1, a0, ()) h)
theorem S150_eq (c : CV) (a0 a1 : AV) (h : AH) : enterK Tryz.prog NN P150 c 150 [a0, a1] h = S150 c a0 a1 h := by kernel_rfl
def W150 (c : CV) (l : List AV) (h : AH) : R := match l with | [a0, a1] => S150 c a0 a1 h | _ => none
theorem W150_ok : WOk Tryz.prog 150 W150 := by
  intro c l h r e
  unfold W150 at e
  split at e
  · exact ⟨P150, by rw [S150_eq]; exact e⟩
  · cases e
/- quietus/code.names -/
def P151 : Pl := .z
def S151 (_ : CV) (h : AH) : R :=
pBuildS h 9 [(.str [])] 24 [(0, 1, (.str [])), (1, 1, (.str [115, 101, 116])), (2, 1, (.str [109, 111, 118, 101])), (3, 1, (.str [97, 100, 100])), (4, 1, (.str [115, 117, 98])), (5, 1, (.str [109, 117, 108])), (6, 1, (.str [108, 101, 115, 115])), (7, 1, (.str [101, 113, 117, 97, 108])), (8, 1, (.str [108, 111, 97, 100])), (9, 1, (.str [115, 116, 111, 114, 101])), (10, 1, (.str [97, 108, 108, 111, 99])), (11, 1, (.str [102, 114, 101, 101])), (12, 1, (.str [106, 117, 109, 112])), (13, 1, (.str [122, 101, 114, 111])), (14, 1, (.str [111, 112, 101, 110])), (15, 1, (.str [99, 108, 111, 115, 101])), (16, 1, (.str [117, 110, 100, 111])), (17, 1, (.str [101, 105, 116, 104, 101, 114])), (18, 1, (.str [111, 114])), (19, 1, (.str [100, 111, 110, 101])), (20, 1, (.str [114, 101, 116, 114, 121])), (21, 1, (.str [101, 109, 105, 116])), (22, 1, (.str [102, 97, 105, 108])), (23, 1, (.str [99, 97, 108, 108]))] fun v0 h1 =>
some (v0, h1)
theorem S151_eq (c : CV) (h : AH) : enterK Tryz.prog NN P151 c 151 [] h = S151 c h := by kernel_rfl
def W151 (c : CV) (l : List AV) (h : AH) : R := match l with | [] => S151 c h | _ => none
theorem W151_ok : WOk Tryz.prog 151 W151 := by
  intro c l h r e
  unfold W151 at e
  split at e
  · exact ⟨P151, by rw [S151_eq]; exact e⟩
  · cases e
/- (*quietus/slate.Slate).add -/
def P152 : Pl := .z
def S152 (_ : CV) (a0 a1 : AV) (h : AH) : R :=
pNil a0 fun v0 =>
pFieldA v0 0 fun v1 =>
pLoad1 h v1 fun v2 =>
pLenS v2 fun v3 =>
pInt .geq v3 (.int .i64 (.ofNat 16)) fun v4 =>
pCond v4 (
some ((.bool false), h)) (
pNil a0 fun v5 =>
pFieldA v5 0 fun v6 =>
pLoad1 h v6 fun v7 =>
pBuildS h 20 [.nili] 1 [(0, 1, a1)] fun v8 h9 =>
pAppend h9 20 1 v7 v8 fun v10 h11 =>
pNil a0 fun v12 =>
pFieldA v12 0 fun v13 =>
pStore h11 v13 v10 1 fun h14 =>
some ((.bool true), h14))
theorem S152_eq (c : CV) (a0 a1 : AV) (h : AH) : enterK Tryz.prog NN P152 c 152 [a0, a1] h = S152 c a0 a1 h := by kernel_rfl
def W152 (c : CV) (l : List AV) (h : AH) : R := match l with | [a0, a1] => S152 c a0 a1 h | _ => none
theorem W152_ok : WOk Tryz.prog 152 W152 := by
  intro c l h r e
  unfold W152 at e
  split at e
  · exact ⟨P152, by rw [S152_eq]; exact e⟩
  · cases e
/- (*quietus/interp.Interp).truth -/
def P153 : Pl := .z
def S153 (_ : CV) (a0 a1 : AV) (h : AH) : R :=
pBox h 68 a0 fun v0 h1 =>
pBox h1 32 a1 fun v2 h3 =>
some ((.fn 196 [] [v0, v2]), h3)
theorem S153_eq (c : CV) (a0 a1 : AV) (h : AH) : enterK Tryz.prog NN P153 c 153 [a0, a1] h = S153 c a0 a1 h := by kernel_rfl
def W153 (c : CV) (l : List AV) (h : AH) : R := match l with | [a0, a1] => S153 c a0 a1 h | _ => none
theorem W153_ok : WOk Tryz.prog 153 W153 := by
  intro c l h r e
  unfold W153 at e
  split at e
  · exact ⟨P153, by rw [S153_eq]; exact e⟩
  · cases e
/- quietus/list.Add -/
def P154 : Pl := (.n none .z (.n none .z (.n none .z (.n none (.r [[17, 15, 9]]) .z))))
def S154 (c : CV) (a0 a1 a2 : AV) (h : AH) : R :=
pBox h 3 a1 fun v0 h1 =>
pBox h1 24 a2 fun v2 h3 =>
pBox h3 4 (.bool false) fun v4 h5 =>
pStore h5 v4 (.bool false) 1 fun h6 =>
pLoad1 h6 v0 fun v7 =>
pCall c (.fn 198 [] []) [a0, v7, (.fn 199 [] [v0, v2, v4])] h6 fun v8 h9 =>
pLoad1 h9 v4 fun v10 =>
joinC (α := AV × AV × AV × Unit → AH → R) (fun s11 h12 =>
pPick s11.2.1 s11.1 (.bool false) fun v14 =>
some ((.tup [v14, s11.2.2.1]), h12)) fun j13 =>
pWant v10 true (
pInt .eql v8 (.int .i64 (.ofNat 0)) fun v15 =>
j13 (v15, v10, v8, ()) h9) (
j13 (.undef, v10, v8, ()) h9)
theorem S154_eq (c : CV) (a0 a1 a2 : AV) (h : AH) : enterK Tryz.prog NN P154 c 154 [a0, a1, a2] h = S154 c a0 a1 a2 h := by kernel_rfl
def W154 (c : CV) (l : List AV) (h : AH) : R := match l with | [a0, a1, a2] => S154 c a0 a1 a2 h | _ => none
theorem W154_ok : WOk Tryz.prog 154 W154 := by
  intro c l h r e
  unfold W154 at e
  split at e
  · exact ⟨P154, by rw [S154_eq]; exact e⟩
  · cases e
/- quietus/list.Cut -/
def P155 : Pl := (.n none .z (.n none .z (.n none .z (.n none (.r [[17, 15, 9]]) .z))))
def S155 (c : CV) (a0 a1 a2 : AV) (h : AH) : R :=
pBox h 3 a1 fun v0 h1 =>
pBox h1 24 a2 fun v2 h3 =>
pBox h3 4 (.bool false) fun v4 h5 =>
pStore h5 v4 (.bool false) 1 fun h6 =>
pLoad1 h6 v0 fun v7 =>
pCall c (.fn 198 [] []) [a0, v7, (.fn 206 [] [v0, v2, v4])] h6 fun v8 h9 =>
pLoad1 h9 v4 fun v10 =>
joinC (α := AV × AV × AV × Unit → AH → R) (fun s11 h12 =>
pPick s11.2.1 s11.1 (.bool false) fun v14 =>
some ((.tup [v14, s11.2.2.1]), h12)) fun j13 =>
pWant v10 true (
pInt .eql v8 (.int .i64 (.ofNat 0)) fun v15 =>
j13 (v15, v10, v8, ()) h9) (
j13 (.undef, v10, v8, ()) h9)
theorem S155_eq (c : CV) (a0 a1 a2 : AV) (h : AH) : enterK Tryz.prog NN P155 c 155 [a0, a1, a2] h = S155 c a0 a1 a2 h := by kernel_rfl
def W155 (c : CV) (l : List AV) (h : AH) : R := match l with | [a0, a1, a2] => S155 c a0 a1 a2 h | _ => none
theorem W155_ok : WOk Tryz.prog 155 W155 := by
  intro c l h r e
  unfold W155 at e
  split at e
  · exact ⟨P155, by rw [S155_eq]; exact e⟩
  · cases e
/- quietus/list.Has -/
def P156 : Pl := (.n none .z (.n none .z (.n none .z (.n none (.r [[17, 15, 9]]) .z))))
def S156 (c : CV) (a0 a1 a2 : AV) (h : AH) : R :=
pBox h 3 a1 fun v0 h1 =>
pBox h1 24 a2 fun v2 h3 =>
pBox h3 4 (.bool false) fun v4 h5 =>
pStore h5 v4 (.bool false) 1 fun h6 =>
pLoad1 h6 v0 fun v7 =>
pCall c (.fn 198 [] []) [a0, v7, (.fn 209 [] [v0, v2, v4])] h6 fun v8 h9 =>
pLoad1 h9 v4 fun v10 =>
joinC (α := AV × AV × AV × Unit → AH → R) (fun s11 h12 =>
pPick s11.2.1 s11.1 (.bool false) fun v14 =>
some ((.tup [v14, s11.2.2.1]), h12)) fun j13 =>
pWant v10 true (
pInt .eql v8 (.int .i64 (.ofNat 0)) fun v15 =>
j13 (v15, v10, v8, ()) h9) (
j13 (.undef, v10, v8, ()) h9)
theorem S156_eq (c : CV) (a0 a1 a2 : AV) (h : AH) : enterK Tryz.prog NN P156 c 156 [a0, a1, a2] h = S156 c a0 a1 a2 h := by kernel_rfl
def W156 (c : CV) (l : List AV) (h : AH) : R := match l with | [a0, a1, a2] => S156 c a0 a1 a2 h | _ => none
theorem W156_ok : WOk Tryz.prog 156 W156 := by
  intro c l h r e
  unfold W156 at e
  split at e
  · exact ⟨P156, by rw [S156_eq]; exact e⟩
  · cases e
/- quietus/table.Put -/
def P157 : Pl := (.n none .z (.n none .z (.n none .z (.n none (.r [[19, 17, 11]]) .z))))
def S157 (c : CV) (a0 a1 a2 a3 : AV) (h : AH) : R :=
pBox h 3 a1 fun v0 h1 =>
pBox h1 24 a2 fun v2 h3 =>
pBox h3 24 a3 fun v4 h5 =>
pBox h5 4 (.bool false) fun v6 h7 =>
pStore h7 v6 (.bool false) 1 fun h8 =>
pLoad1 h8 v0 fun v9 =>
pCall c (.fn 198 [] []) [a0, v9, (.fn 210 [] [v0, v2, v4, v6])] h8 fun v10 h11 =>
pLoad1 h11 v6 fun v12 =>
joinC (α := AV × AV × AV × Unit → AH → R) (fun s13 h14 =>
pPick s13.2.1 s13.1 (.bool false) fun v16 =>
some ((.tup [v16, s13.2.2.1]), h14)) fun j15 =>
pWant v12 true (
pInt .eql v10 (.int .i64 (.ofNat 0)) fun v17 =>
j15 (v17, v12, v10, ()) h11) (
j15 (.undef, v12, v10, ()) h11)
theorem S157_eq (c : CV) (a0 a1 a2 a3 : AV) (h : AH) : enterK Tryz.prog NN P157 c 157 [a0, a1, a2, a3] h = S157 c a0 a1 a2 a3 h := by kernel_rfl
def W157 (c : CV) (l : List AV) (h : AH) : R := match l with | [a0, a1, a2, a3] => S157 c a0 a1 a2 a3 h | _ => none
theorem W157_ok : WOk Tryz.prog 157 W157 := by
  intro c l h r e
  unfold W157 at e
  split at e
  · exact ⟨P157, by rw [S157_eq]; exact e⟩
  · cases e
/- (*quietus/interp.Interp).number -/
def P158 : Pl := .z
def S158 (_ : CV) (a0 a1 : AV) (h : AH) : R :=
pBox h 68 a0 fun v0 h1 =>
pBox h1 32 a1 fun v2 h3 =>
some ((.fn 215 [] [v0, v2]), h3)
theorem S158_eq (c : CV) (a0 a1 : AV) (h : AH) : enterK Tryz.prog NN P158 c 158 [a0, a1] h = S158 c a0 a1 h := by kernel_rfl
def W158 (c : CV) (l : List AV) (h : AH) : R := match l with | [a0, a1] => S158 c a0 a1 h | _ => none
theorem W158_ok : WOk Tryz.prog 158 W158 := by
  intro c l h r e
  unfold W158 at e
  split at e
  · exact ⟨P158, by rw [S158_eq]; exact e⟩
  · cases e
/- quietus/table.Get -/
def P159 : Pl := .z
def S159 (c : CV) (a0 a1 a2 : AV) (h : AH) : R :=
pBox h 3 a1 fun v0 h1 =>
pBox h1 24 a2 fun v2 h3 =>
pBox h3 24 (.int .u64 (.ofNat 0)) fun v4 h5 =>
pBox h5 4 (.bool false) fun v6 h7 =>
pStore h7 v4 (.int .u64 (.ofNat 0)) 1 fun h8 =>
pStore h8 v6 (.bool false) 1 fun h9 =>
pLoad1 h9 v0 fun v10 =>
pCall c (.fn 198 [] []) [a0, v10, (.fn 217 [] [v0, v2, v4, v6])] h9 fun v11 h12 =>
pInt .neq v11 (.int .i64 (.ofNat 0)) fun v13 =>
pCond v13 (
some ((.tup [(.int .u64 (.ofNat 0)), (.bool false), v11]), h12)) (
pLoad1 h12 v4 fun v14 =>
pLoad1 h12 v6 fun v15 =>
some ((.tup [v14, v15, (.int .i64 (.ofNat 0))]), h12))
theorem S159_eq (c : CV) (a0 a1 a2 : AV) (h : AH) : enterK Tryz.prog NN P159 c 159 [a0, a1, a2] h = S159 c a0 a1 a2 h := by kernel_rfl
def W159 (c : CV) (l : List AV) (h : AH) : R := match l with | [a0, a1, a2] => S159 c a0 a1 a2 h | _ => none
theorem W159_ok : WOk Tryz.prog 159 W159 := by
  intro c l h r e
  unfold W159 at e
  split at e
  · exact ⟨P159, by rw [S159_eq]; exact e⟩
  · cases e
/- quietus/table.Del -/
def P160 : Pl := (.n none .z (.n none .z (.n none .z (.n none (.r [[17, 15, 9]]) .z))))
def S160 (c : CV) (a0 a1 a2 : AV) (h : AH) : R :=
pBox h 3 a1 fun v0 h1 =>
pBox h1 24 a2 fun v2 h3 =>
pBox h3 4 (.bool false) fun v4 h5 =>
pStore h5 v4 (.bool false) 1 fun h6 =>
pLoad1 h6 v0 fun v7 =>
pCall c (.fn 198 [] []) [a0, v7, (.fn 218 [] [v0, v2, v4])] h6 fun v8 h9 =>
pLoad1 h9 v4 fun v10 =>
joinC (α := AV × AV × AV × Unit → AH → R) (fun s11 h12 =>
pPick s11.2.1 s11.1 (.bool false) fun v14 =>
some ((.tup [v14, s11.2.2.1]), h12)) fun j13 =>
pWant v10 true (
pInt .eql v8 (.int .i64 (.ofNat 0)) fun v15 =>
j13 (v15, v10, v8, ()) h9) (
j13 (.undef, v10, v8, ()) h9)
theorem S160_eq (c : CV) (a0 a1 a2 : AV) (h : AH) : enterK Tryz.prog NN P160 c 160 [a0, a1, a2] h = S160 c a0 a1 a2 h := by kernel_rfl
def W160 (c : CV) (l : List AV) (h : AH) : R := match l with | [a0, a1, a2] => S160 c a0 a1 a2 h | _ => none
theorem W160_ok : WOk Tryz.prog 160 W160 := by
  intro c l h r e
  unfold W160 at e
  split at e
  · exact ⟨P160, by rw [S160_eq]; exact e⟩
  · cases e
/- (*quietus/interp.Interp).push -/
def P161 : Pl := .z
def S161 (c : CV) (a0 a1 a2 : AV) (h : AH) : R :=
pNil a0 fun v0 =>
pFieldA v0 1 fun v1 =>
pLoad1 h v1 fun v2 =>
pCall c (.fn 219 [] []) [v2, a1, a2] h fun v3 h4 =>
pInt .neq v3 (.int .i64 (.ofNat 0)) fun v5 =>
pCond v5 (
some (v3, h4)) (
pNil a0 fun v6 =>
pFieldA v6 14 fun v7 =>
pLoad1 h4 v7 fun v8 =>
pCall c (.fn 216 [] []) [v8] h4 fun v9 h10 =>
pUn .not v9 fun v11 =>
pCond v11 (
some ((.int .i64 (.ofNat 5)), h10)) (
some ((.int .i64 (.ofNat 0)), h10)))
theorem S161_eq (c : CV) (a0 a1 a2 : AV) (h : AH) : enterK Tryz.prog NN P161 c 161 [a0, a1, a2] h = S161 c a0 a1 a2 h := by kernel_rfl
def W161 (c : CV) (l : List AV) (h : AH) : R := match l with | [a0, a1, a2] => S161 c a0 a1 a2 h | _ => none
theorem W161_ok : WOk Tryz.prog 161 W161 := by
  intro c l h r e
  unfold W161 at e
  split at e
  · exact ⟨P161, by rw [S161_eq]; exact e⟩
  · cases e
/- (*quietus/interp.Interp).take -/
def P162 : Pl := (.n none .z (.n none .z (.n none (.n none (.r [[24, 22, 9, 8, 7, 4, 0]]) .z) .z)))
def S162 (c : CV) (a0 a1 a2 : AV) (h : AH) : R :=
pBox h 32 a1 fun v0 h1 =>
pNil a0 fun v2 =>
pFieldA v2 1 fun v3 =>
pLoad1 h1 v3 fun v4 =>
pCall c (.fn 220 [] []) [v4, a2] h1 fun v5 h6 =>
pExtract v5 0 fun v7 =>
pExtract v5 1 fun v8 =>
pExtract v5 2 fun v9 =>
pInt .eql v9 (.int .i64 (.ofNat 0)) fun v10 =>
joinC (α := AV × AV × AV × AV × AV × AV × AV × Unit → AH → R) (fun s11 h12 =>
pPick s11.2.1 s11.1 (.bool false) fun v14 =>
pCond v14 (
pCall c (.fn 176 [] []) [s11.2.2.2.2.2.2.1] h12 fun v15 h16 =>
some (v15, h16)) (
pLoadN h12 s11.2.2.2.2.2.1 5 fun v17 =>
pCall c (.fn 158 [] []) [s11.2.2.2.2.2.2.1, v17] h12 fun v18 h19 =>
pCall c v18 [s11.2.2.2.2.1, s11.2.2.2.1, s11.2.2.1] h19 fun v20 h21 =>
some (v20, h21))) fun j13 =>
pWant v10 true (
pUn .not v8 fun v22 =>
j13 (v22, v10, v9, v8, v7, v0, a0, ()) h6) (
j13 (.undef, v10, v9, v8, v7, v0, a0, ()) h6)
theorem S162_eq (c : CV) (a0 a1 a2 : AV) (h : AH) : enterK Tryz.prog NN P162 c 162 [a0, a1, a2] h = S162 c a0 a1 a2 h := by kernel_rfl
def W162 (c : CV) (l : List AV) (h : AH) : R := match l with | [a0, a1, a2] => S162 c a0 a1 a2 h | _ => none
theorem W162_ok : WOk Tryz.prog 162 W162 := by
  intro c l h r e
  unfold W162 at e
  split at e
  · exact ⟨P162, by rw [S162_eq]; exact e⟩
  · cases e
/- quietus/tree.Put -/
def P163 : Pl := (.n none .z (.n none .z (.n none .z (.n none (.r [[19, 17, 11]]) .z))))
def S163 (c : CV) (a0 a1 a2 a3 : AV) (h : AH) : R :=
pBox h 3 a1 fun v0 h1 =>
pBox h1 24 a2 fun v2 h3 =>
pBox h3 24 a3 fun v4 h5 =>
pBox h5 4 (.bool false) fun v6 h7 =>
pStore h7 v6 (.bool false) 1 fun h8 =>
pLoad1 h8 v0 fun v9 =>
pCall c (.fn 198 [] []) [a0, v9, (.fn 221 [] [v0, v2, v4, v6])] h8 fun v10 h11 =>
pLoad1 h11 v6 fun v12 =>
joinC (α := AV × AV × AV × Unit → AH → R) (fun s13 h14 =>
pPick s13.2.1 s13.1 (.bool false) fun v16 =>
some ((.tup [v16, s13.2.2.1]), h14)) fun j15 =>
pWant v12 true (
pInt .eql v10 (.int .i64 (.ofNat 0)) fun v17 =>
j15 (v17, v12, v10, ()) h11) (
j15 (.undef, v12, v10, ()) h11)
theorem S163_eq (c : CV) (a0 a1 a2 a3 : AV) (h : AH) : enterK Tryz.prog NN P163 c 163 [a0, a1, a2, a3] h = S163 c a0 a1 a2 a3 h := by kernel_rfl
def W163 (c : CV) (l : List AV) (h : AH) : R := match l with | [a0, a1, a2, a3] => S163 c a0 a1 a2 a3 h | _ => none
theorem W163_ok : WOk Tryz.prog 163 W163 := by
  intro c l h r e
  unfold W163 at e
  split at e
  · exact ⟨P163, by rw [S163_eq]; exact e⟩
  · cases e
/- quietus/tree.Get -/
def P164 : Pl := .z
def S164 (c : CV) (a0 a1 a2 : AV) (h : AH) : R :=
pBox h 3 a1 fun v0 h1 =>
pBox h1 24 a2 fun v2 h3 =>
pBox h3 24 (.int .u64 (.ofNat 0)) fun v4 h5 =>
pBox h5 4 (.bool false) fun v6 h7 =>
pStore h7 v4 (.int .u64 (.ofNat 0)) 1 fun h8 =>
pStore h8 v6 (.bool false) 1 fun h9 =>
pLoad1 h9 v0 fun v10 =>
pCall c (.fn 198 [] []) [a0, v10, (.fn 225 [] [v0, v2, v4, v6])] h9 fun v11 h12 =>
pInt .neq v11 (.int .i64 (.ofNat 0)) fun v13 =>
pCond v13 (
some ((.tup [(.int .u64 (.ofNat 0)), (.bool false), v11]), h12)) (
pLoad1 h12 v4 fun v14 =>
pLoad1 h12 v6 fun v15 =>
some ((.tup [v14, v15, (.int .i64 (.ofNat 0))]), h12))
theorem S164_eq (c : CV) (a0 a1 a2 : AV) (h : AH) : enterK Tryz.prog NN P164 c 164 [a0, a1, a2] h = S164 c a0 a1 a2 h := by kernel_rfl
def W164 (c : CV) (l : List AV) (h : AH) : R := match l with | [a0, a1, a2] => S164 c a0 a1 a2 h | _ => none
theorem W164_ok : WOk Tryz.prog 164 W164 := by
  intro c l h r e
  unfold W164 at e
  split at e
  · exact ⟨P164, by rw [S164_eq]; exact e⟩
  · cases e
/- quietus/tree.Del -/
def P165 : Pl := (.n none .z (.n none .z (.n none .z (.n none (.r [[17, 15, 9]]) .z))))
def S165 (c : CV) (a0 a1 a2 : AV) (h : AH) : R :=
pBox h 3 a1 fun v0 h1 =>
pBox h1 24 a2 fun v2 h3 =>
pBox h3 4 (.bool false) fun v4 h5 =>
pStore h5 v4 (.bool false) 1 fun h6 =>
pLoad1 h6 v0 fun v7 =>
pCall c (.fn 198 [] []) [a0, v7, (.fn 226 [] [v0, v2, v4])] h6 fun v8 h9 =>
pLoad1 h9 v4 fun v10 =>
joinC (α := AV × AV × AV × Unit → AH → R) (fun s11 h12 =>
pPick s11.2.1 s11.1 (.bool false) fun v14 =>
some ((.tup [v14, s11.2.2.1]), h12)) fun j13 =>
pWant v10 true (
pInt .eql v8 (.int .i64 (.ofNat 0)) fun v15 =>
j13 (v15, v10, v8, ()) h9) (
j13 (.undef, v10, v8, ()) h9)
theorem S165_eq (c : CV) (a0 a1 a2 : AV) (h : AH) : enterK Tryz.prog NN P165 c 165 [a0, a1, a2] h = S165 c a0 a1 a2 h := by kernel_rfl
def W165 (c : CV) (l : List AV) (h : AH) : R := match l with | [a0, a1, a2] => S165 c a0 a1 a2 h | _ => none
theorem W165_ok : WOk Tryz.prog 165 W165 := by
  intro c l h r e
  unfold W165 at e
  split at e
  · exact ⟨P165, by rw [S165_eq]; exact e⟩
  · cases e
/- quietus/tree.Range -/
def P166 : Pl := .z
def S166 (c : CV) (a0 a1 a2 a3 : AV) (h : AH) : R :=
pBox h 3 a1 fun v0 h1 =>
pBox h1 24 a2 fun v2 h3 =>
pBox h3 24 a3 fun v4 h5 =>
pBox h5 236 .nils fun v6 h7 =>
pLoad1 h7 v0 fun v8 =>
pCall c (.fn 198 [] []) [a0, v8, (.fn 228 [] [v0, v2, v4, v6])] h7 fun v9 h10 =>
pInt .neq v9 (.int .i64 (.ofNat 0)) fun v11 =>
pCond v11 (
some ((.tup [.nils, v9]), h10)) (
pLoad1 h10 v6 fun v12 =>
some ((.tup [v12, (.int .i64 (.ofNat 0))]), h10))
theorem S166_eq (c : CV) (a0 a1 a2 a3 : AV) (h : AH) : enterK Tryz.prog NN P166 c 166 [a0, a1, a2, a3] h = S166 c a0 a1 a2 a3 h := by kernel_rfl
def W166 (c : CV) (l : List AV) (h : AH) : R := match l with | [a0, a1, a2, a3] => S166 c a0 a1 a2 a3 h | _ => none
theorem W166_ok : WOk Tryz.prog 166 W166 := by
  intro c l h r e
  unfold W166 at e
  split at e
  · exact ⟨P166, by rw [S166_eq]; exact e⟩
  · cases e
/- quietus/interp.place -/
def P167 : Pl := (.n none .z (.n none (.n none (.r [[13, 8, 1, 0], [20, 15, 1, 0]]) .z) .z))
def S167 (_ : CV) (a0 a1 : AV) (h : AH) : R :=
pInt .geq a0 (.int .u64 (.ofNat 2147483648)) fun v0 =>
joinC (α := AV × AV × AV × AV × Unit → AH → R) (fun s1 h2 =>
pPick s1.2.1 (.bool true) s1.1 fun v4 =>
joinC (α := AV × AV × AV × AV × Unit → AH → R) (fun s5 h6 =>
pPick s5.2.1 (.bool true) s5.1 fun v8 =>
pCond v8 (
some ((.tup [(.int .i64 (.ofNat 0)), (.int .i64 (.ofNat 2))]), h6)) (
pConvI .i64 s5.2.2.2.1 fun v9 =>
pInt .add v9 s5.2.2.1 fun v10 =>
some ((.tup [v10, (.int .i64 (.ofNat 0))]), h6))) fun j7 =>
pWant v4 false (
pConvI .i64 s1.2.2.2.1 fun v11 =>
pInt .add v11 s1.2.2.1 fun v12 =>
pInt .lss v12 (.int .i64 (.ofNat 6)) fun v13 =>
j7 (v13, v4, s1.2.2.1, s1.2.2.2.1, ()) h2) (
j7 (.undef, v4, s1.2.2.1, s1.2.2.2.1, ()) h2)) fun j3 =>
pWant v0 false (
pConvI .i64 a0 fun v14 =>
pInt .add v14 a1 fun v15 =>
pInt .geq v15 (.int .i64 (.ofNat 2147483648)) fun v16 =>
j3 (v16, v0, a1, a0, ()) h) (
j3 (.undef, v0, a1, a0, ()) h)
theorem S167_eq (c : CV) (a0 a1 : AV) (h : AH) : enterK Tryz.prog NN P167 c 167 [a0, a1] h = S167 c a0 a1 h := by kernel_rfl
def W167 (c : CV) (l : List AV) (h : AH) : R := match l with | [a0, a1] => S167 c a0 a1 h | _ => none
theorem W167_ok : WOk Tryz.prog 167 W167 := by
  intro c l h r e
  unfold W167 at e
  split at e
  · exact ⟨P167, by rw [S167_eq]; exact e⟩
  · cases e
/- (*quietus/view.View).Write -/
def P168 : Pl := .z
def S168 (c : CV) (a0 a1 a2 : AV) (h : AH) : R :=
pCall c (.fn 135 [] []) [a0, a1] h fun v0 h1 =>
pUn .not v0 fun v2 =>
pCond v2 (
some ((.int .i64 (.ofNat 2)), h1)) (
pNil a0 fun v3 =>
pFieldA v3 2 fun v4 =>
pLoad1 h1 v4 fun v5 =>
pCall c (.fn 179 [] []) [v5, a1, a2] h1 fun v6 h7 =>
some (v6, h7))
theorem S168_eq (c : CV) (a0 a1 a2 : AV) (h : AH) : enterK Tryz.prog NN P168 c 168 [a0, a1, a2] h = S168 c a0 a1 a2 h := by kernel_rfl
def W168 (c : CV) (l : List AV) (h : AH) : R := match l with | [a0, a1, a2] => S168 c a0 a1 a2 h | _ => none
theorem W168_ok : WOk Tryz.prog 168 W168 := by
  intro c l h r e
  unfold W168 at e
  split at e
  · exact ⟨P168, by rw [S168_eq]; exact e⟩
  · cases e
/- quietus/arena.Alloc -/
def P169 : Pl := .z
def S169 (c : CV) (a0 a1 : AV) (h : AH) : R :=
pCall c (.fn 231 [] []) [a1] h fun v0 h1 =>
pInt .eql v0 (.int .i64 (.ofNat 0)) fun v2 =>
pCond v2 (
some ((.tup [(.int .i64 (.ofNat 0)), (.int .i64 (.ofNat 3))]), h1)) (
pCall c (.fn 106 [] []) [v0] h1 fun v3 h4 =>
pCall c (.fn 105 [] []) [a0, v3] h4 fun v5 h6 =>
pExtract v5 0 fun v7 =>
pExtract v5 1 fun v8 =>
pInt .neq v8 (.int .i64 (.ofNat 0)) fun v9 =>
pCond v9 (
some ((.tup [(.int .i64 (.ofNat 0)), v8]), h6)) (
pInt .neq v7 (.int .u64 (.ofNat 0)) fun v10 =>
pCond v10 (
pCall c (.fn 232 [] []) [a0, v0, v7] h6 fun v11 h12 =>
pExtract v11 0 fun v13 =>
pExtract v11 1 fun v14 =>
some ((.tup [v13, v14]), h12)) (
pCall c (.fn 233 [] []) [a0, v0] h6 fun v15 h16 =>
pExtract v15 0 fun v17 =>
pExtract v15 1 fun v18 =>
some ((.tup [v17, v18]), h16))))
theorem S169_eq (c : CV) (a0 a1 : AV) (h : AH) : enterK Tryz.prog NN P169 c 169 [a0, a1] h = S169 c a0 a1 h := by kernel_rfl
def W169 (c : CV) (l : List AV) (h : AH) : R := match l with | [a0, a1] => S169 c a0 a1 h | _ => none
theorem W169_ok : WOk Tryz.prog 169 W169 := by
  intro c l h r e
  unfold W169 at e
  split at e
  · exact ⟨P169, by rw [S169_eq]; exact e⟩
  · cases e
/- quietus/arena.Free -/
def P170 : Pl := (.n none .z (.n none .z (.n (some [7, 5, 1, 0]) (.n none (.r [[19, 17, 7, 5, 1, 0]]) .z) (.n (some [7, 1, 0]) .z (.n (some [7]) .z .z)))))
def S170 (c : CV) (a0 a1 : AV) (h : AH) : R :=
pCall c (.fn 104 [] []) [a0, a1] h fun v0 h1 =>
pExtract v0 0 fun v2 =>
pExtract v0 1 fun v3 =>
pExtract v0 2 fun v4 =>
joinC (α := AV × AV × AV × AV × Unit → AH → List Nat → R) (fun s5 h6 d7 =>
joinC (α := AV × AV × AV × Unit → AH → List Nat → R) (fun s9 h10 d11 =>
joinC (α := AV × Unit → AH → List Nat → R) (fun s13 h14 d15 =>
pLeave d15 h14 fun h17 =>
some (s13.1, h17)) fun j16 =>
pInt .eql s9.1 (.int .i64 (.ofNat 0)) fun v18 =>
pCond v18 (
pCall c (.fn 234 [] []) [s9.2.2.1, s9.2.1] h10 fun _ h20 =>
j16 (s9.1, ()) h20 d11) (
j16 (s9.1, ()) h10 d11)) fun j12 =>
pInt .eql s5.1 (.int .i64 (.ofNat 0)) fun v21 =>
pCond v21 (
pInt .sub s5.2.2.1 (.int .i64 (.ofNat 1)) fun v22 =>
pConvI .u64 s5.2.1 fun v23 =>
pBuild [(.int .i64 (.ofNat 0)), (.int .u64 (.ofNat 0))] [(0, 1, v22), (1, 1, v23)] fun v24 =>
pBuildS h6 153 [(.int .i64 (.ofNat 0)), (.int .u64 (.ofNat 0))] 1 [(0, 2, v24)] fun v25 h26 =>
pCall c (.fn 107 [] []) [s5.2.2.2.1, v25] h26 fun v27 h28 =>
j12 (v27, s5.2.2.1, s5.2.2.2.1, ()) h28 d7) (
j12 (s5.1, s5.2.2.1, s5.2.2.2.1, ()) h6 d7)) fun j8 =>
pInt .eql v4 (.int .i64 (.ofNat 0)) fun v29 =>
joinC (α := AV × AV × AV × AV × AV × AV × Unit → AH → R) (fun s30 h31 =>
pPick s30.2.1 s30.1 (.bool false) fun v33 =>
pCond v33 (
j8 ((.int .i64 (.ofNat 2)), s30.2.2.2.1, s30.2.2.2.2.1, s30.2.2.2.2.2.1, ()) h31 []) (
j8 (s30.2.2.1, s30.2.2.2.1, s30.2.2.2.2.1, s30.2.2.2.2.2.1, ()) h31 [])) fun j32 =>
pWant v29 true (
pUn .not v3 fun v34 =>
j32 (v34, v29, v4, v2, a1, a0, ()) h1) (
j32 (.undef, v29, v4, v2, a1, a0, ()) h1)
theorem S170_eq (c : CV) (a0 a1 : AV) (h : AH) : enterK Tryz.prog NN P170 c 170 [a0, a1] h = S170 c a0 a1 h := by kernel_rfl
def W170 (c : CV) (l : List AV) (h : AH) : R := match l with | [a0, a1] => S170 c a0 a1 h | _ => none
theorem W170_ok : WOk Tryz.prog 170 W170 := by
  intro c l h r e
  unfold W170 at e
  split at e
  · exact ⟨P170, by rw [S170_eq]; exact e⟩
  · cases e
/- (*quietus/interp.Interp).begin -/
def P171 : Pl := (.n none .z (.n none .z (.n none (.r [[]]) .z)))
def S171 (c : CV) (a0 a1 a2 : AV) (h : AH) : R :=
pNil a0 fun v0 =>
pFieldA v0 1 fun v1 =>
pLoad1 h v1 fun v2 =>
pCall c (.fn 235 [] []) [v2] h fun v3 h4 =>
pInt .neq v3 (.int .i64 (.ofNat 0)) fun v5 =>
pCond v5 (
some (v3, h4)) (
joinC (α := Unit → AH → R) (fun _ h7 =>
some ((.int .i64 (.ofNat 0)), h7)) fun j8 =>
pNil a0 fun v9 =>
pFieldA v9 18 fun v10 =>
pLoad1 h4 v10 fun v11 =>
pNil a0 fun v12 =>
pFieldA v12 6 fun v13 =>
pLoadN h4 v13 8 fun v14 =>
pNil a0 fun v15 =>
pFieldA v15 14 fun v16 =>
pLoad1 h4 v16 fun v17 =>
pCall c (.fn 236 [] []) [v17] h4 fun v18 h19 =>
pBuild [(.int .i64 (.ofNat 0)), (.int .i64 (.ofNat 0)), (.int .u64 (.ofNat 0)), (.int .u64 (.ofNat 0)), (.int .u64 (.ofNat 0)), (.int .u64 (.ofNat 0)), (.int .u64 (.ofNat 0)), (.int .u64 (.ofNat 0)), (.int .u64 (.ofNat 0)), (.int .u64 (.ofNat 0)), (.int .i64 (.ofNat 0))] [(0, 1, a1), (1, 1, a2), (2, 8, v14), (10, 1, v18)] fun v20 =>
pBuildS h19 243 [(.int .i64 (.ofNat 0)), (.int .i64 (.ofNat 0)), (.int .u64 (.ofNat 0)), (.int .u64 (.ofNat 0)), (.int .u64 (.ofNat 0)), (.int .u64 (.ofNat 0)), (.int .u64 (.ofNat 0)), (.int .u64 (.ofNat 0)), (.int .u64 (.ofNat 0)), (.int .u64 (.ofNat 0)), (.int .i64 (.ofNat 0))] 1 [(0, 11, v20)] fun v21 h22 =>
pAppend h22 243 11 v11 v21 fun v23 h24 =>
pNil a0 fun v25 =>
pFieldA v25 18 fun v26 =>
pStore h24 v26 v23 1 fun h27 =>
pChk v13 (some 8) v14 h4 h19 h4.nx <|
pChk v10 none v11 h4 h19 h4.nx <|
j8 (()) h27)
theorem S171_eq (c : CV) (a0 a1 a2 : AV) (h : AH) : enterK Tryz.prog NN P171 c 171 [a0, a1, a2] h = S171 c a0 a1 a2 h := by kernel_rfl
def W171 (c : CV) (l : List AV) (h : AH) : R := match l with | [a0, a1, a2] => S171 c a0 a1 a2 h | _ => none
theorem W171_ok : WOk Tryz.prog 171 W171 := by
  intro c l h r e
  unfold W171 at e
  split at e
  · exact ⟨P171, by rw [S171_eq]; exact e⟩
  · cases e
/- (*quietus/interp.Interp).leave -/
def P172 : Pl := .z
def S172 (_ : CV) (a0 : AV) (h : AH) : R :=
pBox h 243 (.agg [(.int .i64 (.ofNat 0)), (.int .i64 (.ofNat 0)), (.int .u64 (.ofNat 0)), (.int .u64 (.ofNat 0)), (.int .u64 (.ofNat 0)), (.int .u64 (.ofNat 0)), (.int .u64 (.ofNat 0)), (.int .u64 (.ofNat 0)), (.int .u64 (.ofNat 0)), (.int .u64 (.ofNat 0)), (.int .i64 (.ofNat 0))]) fun v0 h1 =>
pNil a0 fun v2 =>
pFieldA v2 18 fun v3 =>
pLoad1 h1 v3 fun v4 =>
pNil a0 fun v5 =>
pFieldA v5 18 fun v6 =>
pLoad1 h1 v6 fun v7 =>
pLenS v7 fun v8 =>
pInt .sub v8 (.int .i64 (.ofNat 1)) fun v9 =>
pIdxS v4 v9 11 fun v10 =>
pLoadN h1 v10 11 fun v11 =>
pBox h1 243 (.agg [(.int .i64 (.ofNat 0)), (.int .i64 (.ofNat 0)), (.int .u64 (.ofNat 0)), (.int .u64 (.ofNat 0)), (.int .u64 (.ofNat 0)), (.int .u64 (.ofNat 0)), (.int .u64 (.ofNat 0)), (.int .u64 (.ofNat 0)), (.int .u64 (.ofNat 0)), (.int .u64 (.ofNat 0)), (.int .i64 (.ofNat 0))]) fun v12 h13 =>
pStore h13 v12 v11 11 fun h14 =>
pNil a0 fun v15 =>
pFieldA v15 18 fun v16 =>
pLoad1 h14 v16 fun v17 =>
pNil a0 fun v18 =>
pFieldA v18 18 fun v19 =>
pLoad1 h14 v19 fun v20 =>
pLenS v20 fun v21 =>
pInt .sub v21 (.int .i64 (.ofNat 1)) fun v22 =>
pSlice h14 243 11 v17 none (some v22) fun v23 =>
pNil a0 fun v24 =>
pFieldA v24 18 fun v25 =>
pStore h14 v25 v23 1 fun h26 =>
pLoadN h26 v12 11 fun v27 =>
pStore h26 v0 v27 11 fun h28 =>
pLoadN h28 v0 11 fun v29 =>
some (v29, h28)
theorem S172_eq (c : CV) (a0 : AV) (h : AH) : enterK Tryz.prog NN P172 c 172 [a0] h = S172 c a0 h := by kernel_rfl
def W172 (c : CV) (l : List AV) (h : AH) : R := match l with | [a0] => S172 c a0 h | _ => none
theorem W172_ok : WOk Tryz.prog 172 W172 := by
  intro c l h r e
  unfold W172 at e
  split at e
  · exact ⟨P172, by rw [S172_eq]; exact e⟩
  · cases e
/- (*quietus/view.View).Keep -/
def P173 : Pl := .z
def S173 (c : CV) (a0 : AV) (h : AH) : R :=
pNil a0 fun v0 =>
pFieldA v0 2 fun v1 =>
pLoad1 h v1 fun v2 =>
pCall c (.fn 237 [] []) [v2] h fun v3 h4 =>
some (v3, h4)
theorem S173_eq (c : CV) (a0 : AV) (h : AH) : enterK Tryz.prog NN P173 c 173 [a0] h = S173 c a0 h := by kernel_rfl
def W173 (c : CV) (l : List AV) (h : AH) : R := match l with | [a0] => S173 c a0 h | _ => none
theorem W173_ok : WOk Tryz.prog 173 W173 := by
  intro c l h r e
  unfold W173 at e
  split at e
  · exact ⟨P173, by rw [S173_eq]; exact e⟩
  · cases e
/- (*quietus/interp.Interp).back -/
def P174 : Pl := .z
def S174 (c : CV) (a0 a1 : AV) (h : AH) : R :=
pBox h 243 a1 fun v0 h1 =>
pFieldA v0 2 fun v2 =>
pLoadN h1 v2 8 fun v3 =>
pNil a0 fun v4 =>
pFieldA v4 6 fun v5 =>
pStore h1 v5 v3 8 fun h6 =>
pNil a0 fun v7 =>
pFieldA v7 14 fun v8 =>
pLoad1 h6 v8 fun v9 =>
pFieldA v0 10 fun v10 =>
pLoad1 h6 v10 fun v11 =>
pCall c (.fn 238 [] []) [v9, v11] h6 fun _ h13 =>
some ((.tup []), h13)
theorem S174_eq (c : CV) (a0 a1 : AV) (h : AH) : enterK Tryz.prog NN P174 c 174 [a0, a1] h = S174 c a0 a1 h := by kernel_rfl
def W174 (c : CV) (l : List AV) (h : AH) : R := match l with | [a0, a1] => S174 c a0 a1 h | _ => none
theorem W174_ok : WOk Tryz.prog 174 W174 := by
  intro c l h r e
  unfold W174 at e
  split at e
  · exact ⟨P174, by rw [S174_eq]; exact e⟩
  · cases e
/- (*quietus/view.View).Drop -/
def P175 : Pl := .z
def S175 (c : CV) (a0 : AV) (h : AH) : R :=
pNil a0 fun v0 =>
pFieldA v0 2 fun v1 =>
pLoad1 h v1 fun v2 =>
pCall c (.fn 239 [] []) [v2] h fun v3 h4 =>
some (v3, h4)
theorem S175_eq (c : CV) (a0 : AV) (h : AH) : enterK Tryz.prog NN P175 c 175 [a0] h = S175 c a0 h := by kernel_rfl
def W175 (c : CV) (l : List AV) (h : AH) : R := match l with | [a0] => S175 c a0 h | _ => none
theorem W175_ok : WOk Tryz.prog 175 W175 := by
  intro c l h r e
  unfold W175 at e
  split at e
  · exact ⟨P175, by rw [S175_eq]; exact e⟩
  · cases e
/- (*quietus/interp.Interp).retry -/
def P176 : Pl := (.n none .z (.n none (.n none (.n (some [0]) .z .z) .z) .z))
def S176 (c : CV) (a0 : AV) (h : AH) : R :=
loopC (σ := AV × Unit) NN (fun i3 s0 h1 d2 =>
pNil s0.1 fun v4 =>
pFieldA v4 18 fun v5 =>
pLoad1 h1 v5 fun v6 =>
pLenS v6 fun v7 =>
pInt .gtr v7 (.int .i64 (.ofNat 0)) fun v8 =>
pCond v8 (
pCall c (.fn 172 [] []) [s0.1] h1 fun v9 h10 =>
pBox h10 243 (.agg [(.int .i64 (.ofNat 0)), (.int .i64 (.ofNat 0)), (.int .u64 (.ofNat 0)), (.int .u64 (.ofNat 0)), (.int .u64 (.ofNat 0)), (.int .u64 (.ofNat 0)), (.int .u64 (.ofNat 0)), (.int .u64 (.ofNat 0)), (.int .u64 (.ofNat 0)), (.int .u64 (.ofNat 0)), (.int .i64 (.ofNat 0))]) fun v11 h12 =>
pStore h12 v11 v9 11 fun h13 =>
pNil s0.1 fun v14 =>
pFieldA v14 1 fun v15 =>
pLoad1 h13 v15 fun v16 =>
pCall c (.fn 175 [] []) [v16] h13 fun v17 h18 =>
pInt .neq v17 (.int .i64 (.ofNat 0)) fun v19 =>
pCond v19 (
pLeave d2 h18 fun h20 =>
some (v17, h20)) (
pFieldA v11 0 fun v21 =>
pLoad1 h18 v21 fun v22 =>
pInt .eql v22 (.int .i64 (.ofNat 17)) fun v23 =>
pCond v23 (
pLoadN h18 v11 11 fun v24 =>
pCall c (.fn 174 [] []) [s0.1, v24] h18 fun _ h26 =>
pNil s0.1 fun v27 =>
pFieldA v27 2 fun v28 =>
pLoad1 h26 v28 fun v29 =>
pFieldA v11 1 fun v30 =>
pLoad1 h26 v30 fun v31 =>
pIdxS v29 v31 1 fun v32 =>
pLoad1 h26 v32 fun v33 =>
pInt .add v33 (.int .i64 (.ofNat 1)) fun v34 =>
pNil s0.1 fun v35 =>
pFieldA v35 16 fun v36 =>
pStore h26 v36 v34 1 fun h37 =>
pCall c (.fn 171 [] []) [s0.1, (.int .i64 (.ofNat 18)), v33] h37 fun v38 h39 =>
pLeave d2 h39 fun h40 =>
some (v38, h40)) (
i3 (s0.1, ()) h18 d2))) (
pNil s0.1 fun v41 =>
pFieldA v41 15 fun v42 =>
pLoad1 h1 v42 fun v43 =>
pNil s0.1 fun v44 =>
pFieldA v44 16 fun v45 =>
pStore h1 v45 v43 1 fun h46 =>
pNil s0.1 fun v47 =>
pFieldA v47 5 fun v48 =>
pStore h46 v48 (.int .i64 (.ofNat 3)) 1 fun h49 =>
pLeave d2 h49 fun h50 =>
some ((.int .i64 (.ofNat 0)), h50))) (a0, ()) h []
theorem S176_eq (c : CV) (a0 : AV) (h : AH) : enterK Tryz.prog NN P176 c 176 [a0] h = S176 c a0 h := by kernel_rfl
def W176 (c : CV) (l : List AV) (h : AH) : R := match l with | [a0] => S176 c a0 h | _ => none
theorem W176_ok : WOk Tryz.prog 176 W176 := by
  intro c l h r e
  unfold W176 at e
  split at e
  · exact ⟨P176, by rw [S176_eq]; exact e⟩
  · cases e
/- (*quietus/writes.Writes).Get -/
def P177 : Pl := .z
def S177 (c : CV) (a0 a1 : AV) (h : AH) : R :=
pCall c (.fn 180 [] []) [a0, a1] h fun v0 h1 =>
pInt .geq v0 (.int .i64 (.ofNat 0)) fun v2 =>
pCond v2 (
pNil a0 fun v3 =>
pFieldA v3 1 fun v4 =>
pLoad1 h1 v4 fun v5 =>
pIdxS v5 v0 2 fun v6 =>
pFieldA v6 1 fun v7 =>
pLoad1 h1 v7 fun v8 =>
some ((.tup [v8, (.bool true)]), h1)) (
some ((.tup [(.int .u64 (.ofNat 0)), (.bool false)]), h1))
theorem S177_eq (c : CV) (a0 a1 : AV) (h : AH) : enterK Tryz.prog NN P177 c 177 [a0, a1] h = S177 c a0 a1 h := by kernel_rfl
def W177 (c : CV) (l : List AV) (h : AH) : R := match l with | [a0, a1] => S177 c a0 a1 h | _ => none
theorem W177_ok : WOk Tryz.prog 177 W177 := by
  intro c l h r e
  unfold W177 at e
  split at e
  · exact ⟨P177, by rw [S177_eq]; exact e⟩
  · cases e
/- (*quietus/levels.Levels).in -/
def P178 : Pl := .z
def S178 (_ : CV) (a0 : AV) (h : AH) : R :=
pNil a0 fun v0 =>
pFieldA v0 1 fun v1 =>
pLoad1 h v1 fun v2 =>
pNil a0 fun v3 =>
pFieldA v3 1 fun v4 =>
pLoad1 h v4 fun v5 =>
pLenS v5 fun v6 =>
pInt .sub v6 (.int .i64 (.ofNat 1)) fun v7 =>
pIdxS v2 v7 1 fun v8 =>
pLoad1 h v8 fun v9 =>
some (v9, h)
theorem S178_eq (c : CV) (a0 : AV) (h : AH) : enterK Tryz.prog NN P178 c 178 [a0] h = S178 c a0 h := by kernel_rfl
def W178 (c : CV) (l : List AV) (h : AH) : R := match l with | [a0] => S178 c a0 h | _ => none
theorem W178_ok : WOk Tryz.prog 178 W178 := by
  intro c l h r e
  unfold W178 at e
  split at e
  · exact ⟨P178, by rw [S178_eq]; exact e⟩
  · cases e
/- (*quietus/levels.Levels).Put -/
def P179 : Pl := (.n none .z (.n none (.n none (.r [[14, 12, 2, 1, 0]]) .z) (.n none .z (.n none (.n none .z (.n none (.r [[32, 29, 7, 2, 1]]) .z)) .z))))
def S179 (c : CV) (a0 a1 a2 : AV) (h : AH) : R :=
pInt .lss a1 (.int .i64 (.ofNat 1)) fun v0 =>
joinC (α := AV × AV × AV × AV × AV × Unit → AH → R) (fun s1 h2 =>
pPick s1.2.1 (.bool true) s1.1 fun v4 =>
pCond v4 (
some ((.int .i64 (.ofNat 2)), h2)) (
pCall c (.fn 178 [] []) [s1.2.2.2.2.1] h2 fun v5 h6 =>
pNil v5 fun v7 =>
pFieldA v7 0 fun v8 =>
pLoad1 h6 v8 fun v9 =>
pCall c (.fn 177 [] []) [v9, s1.2.2.2.1] h6 fun v10 h11 =>
pExtract v10 0 fun _ =>
pExtract v10 1 fun v13 =>
pUn .not v13 fun v14 =>
joinC (α := AV × AV × AV × AV × AV × Unit → AH → R) (fun s15 h16 =>
pPick s15.2.1 s15.1 (.bool false) fun v18 =>
pCond v18 (
some ((.int .i64 (.ofNat 5)), h16)) (
pCall c (.fn 139 [] []) [s15.2.2.1, s15.2.2.2.2.1, s15.2.2.2.1] h16 fun v19 h20 =>
some (v19, h20))) fun j17 =>
pWant v14 true (
pCall c (.fn 240 [] []) [s1.2.2.2.2.1] h11 fun v21 h22 =>
pInt .eql v21 (.int .i64 (.ofNat 0)) fun v23 =>
j17 (v23, v14, v9, s1.2.2.1, s1.2.2.2.1, ()) h22) (
j17 (.undef, v14, v9, s1.2.2.1, s1.2.2.2.1, ()) h11))) fun j3 =>
pWant v0 false (
pInt .geq a1 (.int .i64 (.ofNat 256)) fun v24 =>
j3 (v24, v0, a2, a1, a0, ()) h) (
j3 (.undef, v0, a2, a1, a0, ()) h)
theorem S179_eq (c : CV) (a0 a1 a2 : AV) (h : AH) : enterK Tryz.prog NN P179 c 179 [a0, a1, a2] h = S179 c a0 a1 a2 h := by kernel_rfl
def W179 (c : CV) (l : List AV) (h : AH) : R := match l with | [a0, a1, a2] => S179 c a0 a1 a2 h | _ => none
theorem W179_ok : WOk Tryz.prog 179 W179 := by
  intro c l h r e
  unfold W179 at e
  split at e
  · exact ⟨P179, by rw [S179_eq]; exact e⟩
  · cases e
/- (*quietus/writes.Writes).find -/
def P180 : Pl := .z
def S180 (c : CV) (a0 a1 : AV) (h : AH) : R :=
pBox h 3 a1 fun v0 h1 =>
pNil a0 fun v2 =>
pFieldA v2 1 fun v3 =>
pLoad1 h1 v3 fun v4 =>
pCall c (.fn 241 [] []) [v4, (.fn 242 [] [v0])] h1 fun v5 h6 =>
some (v5, h6)
theorem S180_eq (c : CV) (a0 a1 : AV) (h : AH) : enterK Tryz.prog NN P180 c 180 [a0, a1] h = S180 c a0 a1 h := by kernel_rfl
def W180 (c : CV) (l : List AV) (h : AH) : R := match l with | [a0, a1] => S180 c a0 a1 h | _ => none
theorem W180_ok : WOk Tryz.prog 180 W180 := by
  intro c l h r e
  unfold W180 at e
  split at e
  · exact ⟨P180, by rw [S180_eq]; exact e⟩
  · cases e
/- slices.insertionSortOrdered[int] -/
def P181 : Pl := (.n none .z (.n none (.n (some [6, 2, 1, 0]) (.n none .z (.n none (.n none (.n none .z (.n none (.n (some [7, 6, 2, 1, 0]) (.n none (.n none (.r [[29, 19, 7, 6, 2, 1, 0]]) .z) .z) .z) .z)) .z) .z)) .z) .z))
def S181 (c : CV) (a0 a1 a2 : AV) (h : AH) : R :=
pInt .add a1 (.int .i64 (.ofNat 1)) fun v0 =>
loopC (σ := AV × AV × AV × AV × Unit) NN (fun i4 s1 h2 d3 =>
pInt .lss s1.1 s1.2.1 fun v5 =>
pCond v5 (
loopC (σ := AV × AV × AV × AV × AV × Unit) NN (fun i9 s6 h7 d8 =>
pInt .gtr s6.1 s6.2.2.2.1 fun v10 =>
joinC (α := AV × AV × AV × AV × AV × AV × AV × Unit → AH → R) (fun s11 h12 =>
pPick s11.2.1 s11.1 (.bool false) fun v14 =>
pCond v14 (
pInt .sub s11.2.2.1 (.int .i64 (.ofNat 1)) fun v15 =>
pInt .sub s11.2.2.1 (.int .i64 (.ofNat 1)) fun v16 =>
pIdxS s11.2.2.2.2.2.2.1 v16 1 fun v17 =>
pLoad1 h12 v17 fun v18 =>
pIdxS s11.2.2.2.2.2.2.1 s11.2.2.1 1 fun v19 =>
pLoad1 h12 v19 fun v20 =>
pIdxS s11.2.2.2.2.2.2.1 s11.2.2.1 1 fun v21 =>
pStore h12 v21 v18 1 fun h22 =>
pIdxS s11.2.2.2.2.2.2.1 v15 1 fun v23 =>
pStore h22 v23 v20 1 fun h24 =>
pInt .sub s11.2.2.1 (.int .i64 (.ofNat 1)) fun v25 =>
i9 (v25, s11.2.2.2.1, s11.2.2.2.2.1, s11.2.2.2.2.2.1, s11.2.2.2.2.2.2.1, ()) h24 d8) (
pInt .add s11.2.2.2.1 (.int .i64 (.ofNat 1)) fun v26 =>
i4 (v26, s11.2.2.2.2.1, s11.2.2.2.2.2.1, s11.2.2.2.2.2.2.1, ()) h12 d8)) fun j13 =>
pWant v10 true (
pIdxS s6.2.2.2.2.1 s6.1 1 fun v27 =>
pLoad1 h7 v27 fun v28 =>
pInt .sub s6.1 (.int .i64 (.ofNat 1)) fun v29 =>
pIdxS s6.2.2.2.2.1 v29 1 fun v30 =>
pLoad1 h7 v30 fun v31 =>
pCall c (.fn 187 [] []) [v28, v31] h7 fun v32 h33 =>
j13 (v32, v10, s6.1, s6.2.1, s6.2.2.1, s6.2.2.2.1, s6.2.2.2.2.1, ()) h33) (
j13 (.undef, v10, s6.1, s6.2.1, s6.2.2.1, s6.2.2.2.1, s6.2.2.2.2.1, ()) h7)) (s1.1, s1.1, s1.2.1, s1.2.2.1, s1.2.2.2.1, ()) h2 d3) (
pLeave d3 h2 fun h34 =>
some ((.tup []), h34))) (v0, a2, a1, a0, ()) h []
theorem S181_eq (c : CV) (a0 a1 a2 : AV) (h : AH) : enterK Tryz.prog NN P181 c 181 [a0, a1, a2] h = S181 c a0 a1 a2 h := by kernel_rfl
def W181 (c : CV) (l : List AV) (h : AH) : R := match l with | [a0, a1, a2] => S181 c a0 a1 a2 h | _ => none
theorem W181_ok : WOk Tryz.prog 181 W181 := by
  intro c l h r e
  unfold W181 at e
  split at e
  · exact ⟨P181, by rw [S181_eq]; exact e⟩
  · cases e
/- slices.heapSortOrdered[int] -/
def P182 : Pl := (.n none .z (.n none .z (.n none .z (.n none (.n none .z (.n none (.n (some [9, 8, 7, 6, 0]) .z .z) .z)) (.n none .z (.n none (.n (some [10, 7, 6, 0]) .z .z) .z))))))
def S182 (c : CV) (a0 a1 a2 : AV) (h : AH) : R :=
pInt .sub a2 a1 fun v0 =>
pInt .sub v0 (.int .i64 (.ofNat 1)) fun v1 =>
pInt .quo v1 (.int .i64 (.ofNat 2)) fun v2 =>
loopC (σ := AV × AV × AV × AV × AV × Unit) NN (fun i6 s3 h4 d5 =>
pInt .geq s3.1 (.int .i64 (.ofNat 0)) fun v7 =>
pCond v7 (
pCall c (.fn 243 [] []) [s3.2.2.2.2.1, s3.1, s3.2.1, s3.2.2.2.1] h4 fun _ h9 =>
pInt .sub s3.1 (.int .i64 (.ofNat 1)) fun v10 =>
i6 (v10, s3.2.1, s3.2.2.1, s3.2.2.2.1, s3.2.2.2.2.1, ()) h9 d5) (
pInt .sub s3.2.1 (.int .i64 (.ofNat 1)) fun v11 =>
loopC (σ := AV × AV × AV × AV × Unit) NN (fun i15 s12 h13 d14 =>
pInt .geq s12.1 (.int .i64 (.ofNat 0)) fun v16 =>
pCond v16 (
pInt .add s12.2.2.1 s12.1 fun v17 =>
pInt .add s12.2.2.1 s12.1 fun v18 =>
pIdxS s12.2.2.2.1 v18 1 fun v19 =>
pLoad1 h13 v19 fun v20 =>
pIdxS s12.2.2.2.1 s12.2.2.1 1 fun v21 =>
pLoad1 h13 v21 fun v22 =>
pIdxS s12.2.2.2.1 s12.2.2.1 1 fun v23 =>
pStore h13 v23 v20 1 fun h24 =>
pIdxS s12.2.2.2.1 v17 1 fun v25 =>
pStore h24 v25 v22 1 fun h26 =>
pCall c (.fn 243 [] []) [s12.2.2.2.1, s12.2.1, s12.1, s12.2.2.1] h26 fun _ h28 =>
pInt .sub s12.1 (.int .i64 (.ofNat 1)) fun v29 =>
i15 (v29, s12.2.1, s12.2.2.1, s12.2.2.2.1, ()) h28 d14) (
pLeave d14 h13 fun h30 =>
some ((.tup []), h30))) (v11, s3.2.2.1, s3.2.2.2.1, s3.2.2.2.2.1, ()) h4 d5)) (v2, v0, (.int .i64 (.ofNat 0)), a1, a0, ()) h []
theorem S182_eq (c : CV) (a0 a1 a2 : AV) (h : AH) : enterK Tryz.prog NN P182 c 182 [a0, a1, a2] h = S182 c a0 a1 a2 h := by kernel_rfl
def W182 (c : CV) (l : List AV) (h : AH) : R := match l with | [a0, a1, a2] => S182 c a0 a1 a2 h | _ => none
theorem W182_ok : WOk Tryz.prog 182 W182 := by
  intro c l h r e
  unfold W182 at e
  split at e
  · exact ⟨P182, by rw [S182_eq]; exact e⟩
  · cases e
/- slices.breakPatternsOrdered[int] -/
def P183 : Pl := (.n none .z (.n none .z (.n none (.n none .z (.n none .z (.n none .z (.n none (.n (some [9, 8, 7, 6, 1, 0]) (.n none .z (.n none (.n none (.n none .z (.n (some [10, 9, 8, 7, 6, 1, 0]) .z .z)) .z) .z)) .z) .z)))) .z)))
def S183 (c : CV) (a0 a1 a2 : AV) (h : AH) : R :=
pInt .sub a2 a1 fun v0 =>
pInt .geq v0 (.int .i64 (.ofNat 8)) fun v1 =>
pCond v1 (
pConvI .u64 v0 fun v2 =>
pBox h 284 (.int .u64 (.ofNat 0)) fun v3 h4 =>
pStore h4 v3 v2 1 fun h5 =>
pCall c (.fn 244 [] []) [v0] h5 fun v6 h7 =>
pInt .quo v0 (.int .i64 (.ofNat 4)) fun v8 =>
pInt .mul v8 (.int .i64 (.ofNat 2)) fun v9 =>
pInt .add a1 v9 fun v10 =>
pInt .sub v10 (.int .i64 (.ofNat 1)) fun v11 =>
loopC (σ := AV × AV × AV × AV × AV × AV × Unit) NN (fun i15 s12 h13 d14 =>
pInt .quo s12.2.2.2.1 (.int .i64 (.ofNat 4)) fun v16 =>
pInt .mul v16 (.int .i64 (.ofNat 2)) fun v17 =>
pInt .add s12.2.2.2.2.1 v17 fun v18 =>
pInt .add v18 (.int .i64 (.ofNat 1)) fun v19 =>
pInt .leq s12.1 v19 fun v20 =>
pCond v20 (
pCall c (.fn 245 [] []) [s12.2.2.1] h13 fun v21 h22 =>
pInt .sub s12.2.1 (.int .u64 (.ofNat 1)) fun v23 =>
pInt .and v21 v23 fun v24 =>
pConvI .i64 v24 fun v25 =>
joinC (α := AV × AV × AV × AV × AV × AV × AV × Unit → AH → List Nat → R) (fun s26 h27 d28 =>
pInt .add s26.2.2.2.2.2.1 s26.1 fun v30 =>
pInt .add s26.2.2.2.2.2.1 s26.1 fun v31 =>
pIdxS s26.2.2.2.2.2.2.1 v31 1 fun v32 =>
pLoad1 h27 v32 fun v33 =>
pIdxS s26.2.2.2.2.2.2.1 s26.2.1 1 fun v34 =>
pLoad1 h27 v34 fun v35 =>
pIdxS s26.2.2.2.2.2.2.1 s26.2.1 1 fun v36 =>
pStore h27 v36 v33 1 fun h37 =>
pIdxS s26.2.2.2.2.2.2.1 v30 1 fun v38 =>
pStore h37 v38 v35 1 fun h39 =>
pInt .add s26.2.1 (.int .i64 (.ofNat 1)) fun v40 =>
i15 (v40, s26.2.2.1, s26.2.2.2.1, s26.2.2.2.2.1, s26.2.2.2.2.2.1, s26.2.2.2.2.2.2.1, ()) h39 d28) fun j29 =>
pInt .geq v25 s12.2.2.2.1 fun v41 =>
pCond v41 (
pInt .sub v25 s12.2.2.2.1 fun v42 =>
j29 (v42, s12.1, s12.2.1, s12.2.2.1, s12.2.2.2.1, s12.2.2.2.2.1, s12.2.2.2.2.2.1, ()) h22 d14) (
j29 (v25, s12.1, s12.2.1, s12.2.2.1, s12.2.2.2.1, s12.2.2.2.2.1, s12.2.2.2.2.2.1, ()) h22 d14)) (
pLeave d14 h13 fun h43 =>
some ((.tup []), h43))) (v11, v6, v3, v0, a1, a0, ()) h7 []) (
some ((.tup []), h))
theorem S183_eq (c : CV) (a0 a1 a2 : AV) (h : AH) : enterK Tryz.prog NN P183 c 183 [a0, a1, a2] h = S183 c a0 a1 a2 h := by kernel_rfl
def W183 (c : CV) (l : List AV) (h : AH) : R := match l with | [a0, a1, a2] => S183 c a0 a1 a2 h | _ => none
theorem W183_ok : WOk Tryz.prog 183 W183 := by
  intro c l h r e
  unfold W183 at e
  split at e
  · exact ⟨P183, by rw [S183_eq]; exact e⟩
  · cases e
/- slices.choosePivotOrdered[int] -/
def P184 : Pl := (.n none .z (.n none .z (.n none .z (.n none .z (.n none .z (.n none .z (.n (some [11, 9]) (.n none .z (.n none (.n (some [12, 11, 10, 9, 0]) .z .z) .z)) .z)))))))
def S184 (c : CV) (a0 a1 a2 : AV) (h : AH) : R :=
pInt .sub a2 a1 fun v0 =>
pBox h 3 (.int .i64 (.ofNat 0)) fun v1 h2 =>
pInt .quo v0 (.int .i64 (.ofNat 4)) fun v3 =>
pInt .mul v3 (.int .i64 (.ofNat 1)) fun v4 =>
pInt .add a1 v4 fun v5 =>
pInt .quo v0 (.int .i64 (.ofNat 4)) fun v6 =>
pInt .mul v6 (.int .i64 (.ofNat 2)) fun v7 =>
pInt .add a1 v7 fun v8 =>
pInt .quo v0 (.int .i64 (.ofNat 4)) fun v9 =>
pInt .mul v9 (.int .i64 (.ofNat 3)) fun v10 =>
pInt .add a1 v10 fun v11 =>
joinC (α := AV × AV × Unit → AH → List Nat → R) (fun s12 h13 d14 =>
pLoad1 h13 s12.2.1 fun v16 =>
pInt .eql v16 (.int .i64 (.ofNat 0)) fun v17 =>
pCond v17 (
pLeave d14 h13 fun h18 =>
some ((.tup [s12.1, (.int .i64 (.ofNat 1))]), h18)) (
pInt .eql v16 (.int .i64 (.ofNat 12)) fun v19 =>
pCond v19 (
pLeave d14 h13 fun h20 =>
some ((.tup [s12.1, (.int .i64 (.ofNat 2))]), h20)) (
pLeave d14 h13 fun h21 =>
some ((.tup [s12.1, (.int .i64 (.ofNat 0))]), h21)))) fun j15 =>
pInt .geq v0 (.int .i64 (.ofNat 8)) fun v22 =>
pCond v22 (
joinC (α := AV × AV × AV × AV × AV × Unit → AH → List Nat → R) (fun s23 h24 d25 =>
pCall c (.fn 247 [] []) [s23.2.2.2.2.1, s23.2.2.1, s23.2.1, s23.1, s23.2.2.2.1] h24 fun v27 h28 =>
j15 (v27, s23.2.2.2.1, ()) h28 d25) fun j26 =>
pInt .geq v0 (.int .i64 (.ofNat 50)) fun v29 =>
pCond v29 (
pCall c (.fn 246 [] []) [a0, v5, v1] h2 fun v30 h31 =>
pCall c (.fn 246 [] []) [a0, v8, v1] h31 fun v32 h33 =>
pCall c (.fn 246 [] []) [a0, v11, v1] h33 fun v34 h35 =>
j26 (v34, v32, v30, v1, a0, ()) h35 []) (
j26 (v11, v8, v5, v1, a0, ()) h2 [])) (
j15 (v8, v1, ()) h2 [])
theorem S184_eq (c : CV) (a0 a1 a2 : AV) (h : AH) : enterK Tryz.prog NN P184 c 184 [a0, a1, a2] h = S184 c a0 a1 a2 h := by kernel_rfl
def W184 (c : CV) (l : List AV) (h : AH) : R := match l with | [a0, a1, a2] => S184 c a0 a1 a2 h | _ => none
theorem W184_ok : WOk Tryz.prog 184 W184 := by
  intro c l h r e
  unfold W184 at e
  split at e
  · exact ⟨P184, by rw [S184_eq]; exact e⟩
  · cases e
/- slices.reverseRangeOrdered[int] -/
def P185 : Pl := (.n none .z (.n none .z (.n none (.n (some [7, 6, 0]) .z .z) .z)))
def S185 (_ : CV) (a0 a1 a2 : AV) (h : AH) : R :=
pInt .sub a2 (.int .i64 (.ofNat 1)) fun v0 =>
loopC (σ := AV × AV × AV × Unit) NN (fun i4 s1 h2 d3 =>
pInt .lss s1.2.1 s1.1 fun v5 =>
pCond v5 (
pIdxS s1.2.2.1 s1.1 1 fun v6 =>
pLoad1 h2 v6 fun v7 =>
pIdxS s1.2.2.1 s1.2.1 1 fun v8 =>
pLoad1 h2 v8 fun v9 =>
pIdxS s1.2.2.1 s1.2.1 1 fun v10 =>
pStore h2 v10 v7 1 fun h11 =>
pIdxS s1.2.2.1 s1.1 1 fun v12 =>
pStore h11 v12 v9 1 fun h13 =>
pInt .add s1.2.1 (.int .i64 (.ofNat 1)) fun v14 =>
pInt .sub s1.1 (.int .i64 (.ofNat 1)) fun v15 =>
i4 (v15, v14, s1.2.2.1, ()) h13 d3) (
pLeave d3 h2 fun h16 =>
some ((.tup []), h16))) (v0, a1, a0, ()) h []
theorem S185_eq (c : CV) (a0 a1 a2 : AV) (h : AH) : enterK Tryz.prog NN P185 c 185 [a0, a1, a2] h = S185 c a0 a1 a2 h := by kernel_rfl
def W185 (c : CV) (l : List AV) (h : AH) : R := match l with | [a0, a1, a2] => S185 c a0 a1 a2 h | _ => none
theorem W185_ok : WOk Tryz.prog 185 W185 := by
  intro c l h r e
  unfold W185 at e
  split at e
  · exact ⟨P185, by rw [S185_eq]; exact e⟩
  · cases e
/- slices.partialInsertionSortOrdered[int] -/
def P186 : Pl := (.n none .z (.n none .z (.n none (.n none .z (.n none (.n (some [8, 7, 2, 1, 0]) (.n none .z (.n none (.n (some [8, 7, 2, 1, 0]) (.n none (.n none (.n (some [8, 7, 2, 1, 0]) (.n none (.n none (.r [[31, 20, 8, 7, 2, 1, 0]]) .z) .z) .z) .z) (.n none .z (.n none .z (.n none .z (.n (some [8, 7, 2, 1, 0]) (.n none .z (.n none (.n none .z (.n (some [8, 7, 2, 1, 0]) (.n (some [9, 8, 7, 2, 1, 0]) .z .z) .z)) .z)) (.n none .z (.n none (.n none .z (.n (some [8, 7, 2, 1, 0]) (.n (some [10, 8, 7, 2, 1, 0]) .z .z) .z)) .z))))))) .z) .z)) .z) .z)) .z)))
def S186 (c : CV) (a0 a1 a2 : AV) (h : AH) : R :=
pInt .add a1 (.int .i64 (.ofNat 1)) fun v0 =>
loopC (σ := AV × AV × AV × AV × AV × Unit) NN (fun i4 s1 h2 d3 =>
pInt .lss s1.1 (.int .i64 (.ofNat 5)) fun v5 =>
pCond v5 (
joinC (α := AV × AV × AV × AV × AV × Unit → AH → List Nat → R) (fun s6 h7 d8 =>
pInt .add s6.1 (.int .i64 (.ofNat 1)) fun v10 =>
i4 (v10, s6.2.1, s6.2.2.1, s6.2.2.2.1, s6.2.2.2.2.1, ()) h7 d8) fun j9 =>
loopC (σ := AV × AV × AV × AV × AV × Unit) NN (fun i14 s11 h12 d13 =>
pInt .lss s11.2.1 s11.2.2.1 fun v15 =>
joinC (α := AV × AV × AV × AV × AV × AV × AV × Unit → AH → R) (fun s16 h17 =>
pPick s16.2.1 s16.1 (.bool false) fun v19 =>
pCond v19 (
pInt .add s16.2.2.2.1 (.int .i64 (.ofNat 1)) fun v20 =>
i14 (s16.2.2.1, v20, s16.2.2.2.2.1, s16.2.2.2.2.2.1, s16.2.2.2.2.2.2.1, ()) h17 d13) (
pInt .eql s16.2.2.2.1 s16.2.2.2.2.1 fun v21 =>
pCond v21 (
pLeave d13 h17 fun h22 =>
some ((.bool true), h22)) (
pInt .sub s16.2.2.2.2.1 s16.2.2.2.2.2.1 fun v23 =>
pInt .lss v23 (.int .i64 (.ofNat 50)) fun v24 =>
pCond v24 (
pLeave d13 h17 fun h25 =>
some ((.bool false), h25)) (
pInt .sub s16.2.2.2.1 (.int .i64 (.ofNat 1)) fun v26 =>
pInt .sub s16.2.2.2.1 (.int .i64 (.ofNat 1)) fun v27 =>
pIdxS s16.2.2.2.2.2.2.1 v27 1 fun v28 =>
pLoad1 h17 v28 fun v29 =>
pIdxS s16.2.2.2.2.2.2.1 s16.2.2.2.1 1 fun v30 =>
pLoad1 h17 v30 fun v31 =>
pIdxS s16.2.2.2.2.2.2.1 s16.2.2.2.1 1 fun v32 =>
pStore h17 v32 v29 1 fun h33 =>
pIdxS s16.2.2.2.2.2.2.1 v26 1 fun v34 =>
pStore h33 v34 v31 1 fun h35 =>
joinC (α := AV × AV × AV × AV × AV × Unit → AH → List Nat → R) (fun s36 h37 d38 =>
pInt .sub s36.2.2.1 s36.2.1 fun v40 =>
pInt .geq v40 (.int .i64 (.ofNat 2)) fun v41 =>
pCond v41 (
pInt .add s36.2.1 (.int .i64 (.ofNat 1)) fun v42 =>
joinC (α := AV × AV × AV × AV × AV × Unit → AH → List Nat → R) (fun s43 h44 d45 =>
j9 (s43.1, s43.2.1, s43.2.2.1, s43.2.2.2.1, s43.2.2.2.2.1, ()) h44 d45) fun j46 =>
loopC (σ := AV × AV × AV × AV × AV × AV × Unit) NN (fun i50 s47 h48 d49 =>
pInt .lss s47.1 s47.2.2.2.1 fun v51 =>
pCond v51 (
pIdxS s47.2.2.2.2.2.1 s47.1 1 fun v52 =>
pLoad1 h48 v52 fun v53 =>
pInt .sub s47.1 (.int .i64 (.ofNat 1)) fun v54 =>
pIdxS s47.2.2.2.2.2.1 v54 1 fun v55 =>
pLoad1 h48 v55 fun v56 =>
pCall c (.fn 187 [] []) [v53, v56] h48 fun v57 h58 =>
pUn .not v57 fun v59 =>
pCond v59 (
j46 (s47.2.1, s47.2.2.1, s47.2.2.2.1, s47.2.2.2.2.1, s47.2.2.2.2.2.1, ()) h58 d49) (
pInt .sub s47.1 (.int .i64 (.ofNat 1)) fun v60 =>
pInt .sub s47.1 (.int .i64 (.ofNat 1)) fun v61 =>
pIdxS s47.2.2.2.2.2.1 v61 1 fun v62 =>
pLoad1 h58 v62 fun v63 =>
pIdxS s47.2.2.2.2.2.1 s47.1 1 fun v64 =>
pLoad1 h58 v64 fun v65 =>
pIdxS s47.2.2.2.2.2.1 s47.1 1 fun v66 =>
pStore h58 v66 v63 1 fun h67 =>
pIdxS s47.2.2.2.2.2.1 v60 1 fun v68 =>
pStore h67 v68 v65 1 fun h69 =>
pInt .add s47.1 (.int .i64 (.ofNat 1)) fun v70 =>
i50 (v70, s47.2.1, s47.2.2.1, s47.2.2.2.1, s47.2.2.2.2.1, s47.2.2.2.2.2.1, ()) h69 d49)) (
j46 (s47.2.1, s47.2.2.1, s47.2.2.2.1, s47.2.2.2.2.1, s47.2.2.2.2.2.1, ()) h48 d49)) (v42, s36.1, s36.2.1, s36.2.2.1, s36.2.2.2.1, s36.2.2.2.2.1, ()) h37 d38) (
j9 (s36.1, s36.2.1, s36.2.2.1, s36.2.2.2.1, s36.2.2.2.2.1, ()) h37 d38)) fun j39 =>
pInt .sub s16.2.2.2.1 s16.2.2.2.2.2.1 fun v71 =>
pInt .geq v71 (.int .i64 (.ofNat 2)) fun v72 =>
pCond v72 (
pInt .sub s16.2.2.2.1 (.int .i64 (.ofNat 1)) fun v73 =>
joinC (α := AV × AV × AV × AV × AV × Unit → AH → List Nat → R) (fun s74 h75 d76 =>
j39 (s74.1, s74.2.1, s74.2.2.1, s74.2.2.2.1, s74.2.2.2.2.1, ()) h75 d76) fun j77 =>
loopC (σ := AV × AV × AV × AV × AV × AV × Unit) NN (fun i81 s78 h79 d80 =>
pInt .geq s78.1 (.int .i64 (.ofNat 1)) fun v82 =>
pCond v82 (
pIdxS s78.2.2.2.2.2.1 s78.1 1 fun v83 =>
pLoad1 h79 v83 fun v84 =>
pInt .sub s78.1 (.int .i64 (.ofNat 1)) fun v85 =>
pIdxS s78.2.2.2.2.2.1 v85 1 fun v86 =>
pLoad1 h79 v86 fun v87 =>
pCall c (.fn 187 [] []) [v84, v87] h79 fun v88 h89 =>
pUn .not v88 fun v90 =>
pCond v90 (
j77 (s78.2.1, s78.2.2.1, s78.2.2.2.1, s78.2.2.2.2.1, s78.2.2.2.2.2.1, ()) h89 d80) (
pInt .sub s78.1 (.int .i64 (.ofNat 1)) fun v91 =>
pInt .sub s78.1 (.int .i64 (.ofNat 1)) fun v92 =>
pIdxS s78.2.2.2.2.2.1 v92 1 fun v93 =>
pLoad1 h89 v93 fun v94 =>
pIdxS s78.2.2.2.2.2.1 s78.1 1 fun v95 =>
pLoad1 h89 v95 fun v96 =>
pIdxS s78.2.2.2.2.2.1 s78.1 1 fun v97 =>
pStore h89 v97 v94 1 fun h98 =>
pIdxS s78.2.2.2.2.2.1 v91 1 fun v99 =>
pStore h98 v99 v96 1 fun h100 =>
pInt .sub s78.1 (.int .i64 (.ofNat 1)) fun v101 =>
i81 (v101, s78.2.1, s78.2.2.1, s78.2.2.2.1, s78.2.2.2.2.1, s78.2.2.2.2.2.1, ()) h100 d80)) (
j77 (s78.2.1, s78.2.2.1, s78.2.2.2.1, s78.2.2.2.2.1, s78.2.2.2.2.2.1, ()) h79 d80)) (v73, s16.2.2.1, s16.2.2.2.1, s16.2.2.2.2.1, s16.2.2.2.2.2.1, s16.2.2.2.2.2.2.1, ()) h35 d13) (
j39 (s16.2.2.1, s16.2.2.2.1, s16.2.2.2.2.1, s16.2.2.2.2.2.1, s16.2.2.2.2.2.2.1, ()) h35 d13))))) fun j18 =>
pWant v15 true (
pIdxS s11.2.2.2.2.1 s11.2.1 1 fun v102 =>
pLoad1 h12 v102 fun v103 =>
pInt .sub s11.2.1 (.int .i64 (.ofNat 1)) fun v104 =>
pIdxS s11.2.2.2.2.1 v104 1 fun v105 =>
pLoad1 h12 v105 fun v106 =>
pCall c (.fn 187 [] []) [v103, v106] h12 fun v107 h108 =>
pUn .not v107 fun v109 =>
j18 (v109, v15, s11.1, s11.2.1, s11.2.2.1, s11.2.2.2.1, s11.2.2.2.2.1, ()) h108) (
j18 (.undef, v15, s11.1, s11.2.1, s11.2.2.1, s11.2.2.2.1, s11.2.2.2.2.1, ()) h12)) (s1.1, s1.2.1, s1.2.2.1, s1.2.2.2.1, s1.2.2.2.2.1, ()) h2 d3) (
pLeave d3 h2 fun h110 =>
some ((.bool false), h110))) ((.int .i64 (.ofNat 0)), v0, a2, a1, a0, ()) h []
theorem S186_eq (c : CV) (a0 a1 a2 : AV) (h : AH) : enterK Tryz.prog NN P186 c 186 [a0, a1, a2] h = S186 c a0 a1 a2 h := by kernel_rfl
def W186 (c : CV) (l : List AV) (h : AH) : R := match l with | [a0, a1, a2] => S186 c a0 a1 a2 h | _ => none
theorem W186_ok : WOk Tryz.prog 186 W186 := by
  intro c l h r e
  unfold W186 at e
  split at e
  · exact ⟨P186, by rw [S186_eq]; exact e⟩
  · cases e
/- cmp.Less[int] -/
def P187 : Pl := (.n none .z (.n none (.r [[10, 7, 1, 0], [15, 12]]) .z))
def S187 (c : CV) (a0 a1 : AV) (h : AH) : R :=
pCall c (.fn 248 [] []) [a0] h fun v0 h1 =>
joinC (α := AV × AV × AV × AV × Unit → AH → R) (fun s2 h3 =>
pPick s2.2.1 s2.1 (.bool false) fun v5 =>
joinC (α := AV × AV × Unit → AH → R) (fun s6 h7 =>
pPick s6.2.1 (.bool true) s6.1 fun v9 =>
some (v9, h7)) fun j8 =>
pWant v5 false (
pInt .lss s2.2.2.2.1 s2.2.2.1 fun v10 =>
j8 (v10, v5, ()) h3) (
j8 (.undef, v5, ()) h3)) fun j4 =>
pWant v0 true (
pCall c (.fn 248 [] []) [a1] h1 fun v11 h12 =>
pUn .not v11 fun v13 =>
j4 (v13, v0, a1, a0, ()) h12) (
j4 (.undef, v0, a1, a0, ()) h1)
theorem S187_eq (c : CV) (a0 a1 : AV) (h : AH) : enterK Tryz.prog NN P187 c 187 [a0, a1] h = S187 c a0 a1 h := by kernel_rfl
def W187 (c : CV) (l : List AV) (h : AH) : R := match l with | [a0, a1] => S187 c a0 a1 h | _ => none
theorem W187_ok : WOk Tryz.prog 187 W187 := by
  intro c l h r e
  unfold W187 at e
  split at e
  · exact ⟨P187, by rw [S187_eq]; exact e⟩
  · cases e
/- slices.partitionEqualOrdered[int] -/
def P188 : Pl := (.n none .z (.n none .z (.n none .z (.n none (.n none (.n (some [10, 9, 1, 0]) (.n none (.n none (.n none (.n (some [10, 9, 1, 0]) (.n none (.n none (.r [[42, 32, 10, 9, 1, 0]]) .z) .z) .z) .z) (.n none (.n none (.n (some [10, 9, 1, 0]) (.n none (.n none (.r [[58, 49, 10, 9, 1, 0]]) .z) .z) .z) .z) .z)) .z) .z) .z) .z))))
def S188 (c : CV) (a0 a1 a2 a3 : AV) (h : AH) : R :=
pIdxS a0 a3 1 fun v0 =>
pLoad1 h v0 fun v1 =>
pIdxS a0 a1 1 fun v2 =>
pLoad1 h v2 fun v3 =>
pIdxS a0 a1 1 fun v4 =>
pStore h v4 v1 1 fun h5 =>
pIdxS a0 a3 1 fun v6 =>
pStore h5 v6 v3 1 fun h7 =>
pInt .add a1 (.int .i64 (.ofNat 1)) fun v8 =>
pInt .sub a2 (.int .i64 (.ofNat 1)) fun v9 =>
loopC (σ := AV × AV × AV × AV × Unit) NN (fun i13 s10 h11 d12 =>
loopC (σ := AV × AV × AV × AV × Unit) NN (fun i17 s14 h15 d16 =>
pInt .leq s14.2.1 s14.1 fun v18 =>
joinC (α := AV × AV × AV × AV × AV × AV × Unit → AH → R) (fun s19 h20 =>
pPick s19.2.1 s19.1 (.bool false) fun v22 =>
pCond v22 (
pInt .add s19.2.2.2.1 (.int .i64 (.ofNat 1)) fun v23 =>
i17 (s19.2.2.1, v23, s19.2.2.2.2.1, s19.2.2.2.2.2.1, ()) h20 d16) (
loopC (σ := AV × AV × AV × AV × Unit) NN (fun i27 s24 h25 d26 =>
pInt .leq s24.2.1 s24.1 fun v28 =>
joinC (α := AV × AV × AV × AV × AV × AV × Unit → AH → R) (fun s29 h30 =>
pPick s29.2.1 s29.1 (.bool false) fun v32 =>
pCond v32 (
pInt .sub s29.2.2.1 (.int .i64 (.ofNat 1)) fun v33 =>
i27 (v33, s29.2.2.2.1, s29.2.2.2.2.1, s29.2.2.2.2.2.1, ()) h30 d26) (
pInt .gtr s29.2.2.2.1 s29.2.2.1 fun v34 =>
pCond v34 (
pLeave d26 h30 fun h35 =>
some (s29.2.2.2.1, h35)) (
pIdxS s29.2.2.2.2.2.1 s29.2.2.1 1 fun v36 =>
pLoad1 h30 v36 fun v37 =>
pIdxS s29.2.2.2.2.2.1 s29.2.2.2.1 1 fun v38 =>
pLoad1 h30 v38 fun v39 =>
pIdxS s29.2.2.2.2.2.1 s29.2.2.2.1 1 fun v40 =>
pStore h30 v40 v37 1 fun h41 =>
pIdxS s29.2.2.2.2.2.1 s29.2.2.1 1 fun v42 =>
pStore h41 v42 v39 1 fun h43 =>
pInt .add s29.2.2.2.1 (.int .i64 (.ofNat 1)) fun v44 =>
pInt .sub s29.2.2.1 (.int .i64 (.ofNat 1)) fun v45 =>
i13 (v45, v44, s29.2.2.2.2.1, s29.2.2.2.2.2.1, ()) h43 d26))) fun j31 =>
pWant v28 true (
pIdxS s24.2.2.2.1 s24.2.2.1 1 fun v46 =>
pLoad1 h25 v46 fun v47 =>
pIdxS s24.2.2.2.1 s24.1 1 fun v48 =>
pLoad1 h25 v48 fun v49 =>
pCall c (.fn 187 [] []) [v47, v49] h25 fun v50 h51 =>
j31 (v50, v28, s24.1, s24.2.1, s24.2.2.1, s24.2.2.2.1, ()) h51) (
j31 (.undef, v28, s24.1, s24.2.1, s24.2.2.1, s24.2.2.2.1, ()) h25)) (s19.2.2.1, s19.2.2.2.1, s19.2.2.2.2.1, s19.2.2.2.2.2.1, ()) h20 d16)) fun j21 =>
pWant v18 true (
pIdxS s14.2.2.2.1 s14.2.2.1 1 fun v52 =>
pLoad1 h15 v52 fun v53 =>
pIdxS s14.2.2.2.1 s14.2.1 1 fun v54 =>
pLoad1 h15 v54 fun v55 =>
pCall c (.fn 187 [] []) [v53, v55] h15 fun v56 h57 =>
pUn .not v56 fun v58 =>
j21 (v58, v18, s14.1, s14.2.1, s14.2.2.1, s14.2.2.2.1, ()) h57) (
j21 (.undef, v18, s14.1, s14.2.1, s14.2.2.1, s14.2.2.2.1, ()) h15)) (s10.1, s10.2.1, s10.2.2.1, s10.2.2.2.1, ()) h11 d12) (v9, v8, a1, a0, ()) h7 []
theorem S188_eq (c : CV) (a0 a1 a2 a3 : AV) (h : AH) : enterK Tryz.prog NN P188 c 188 [a0, a1, a2, a3] h = S188 c a0 a1 a2 a3 h := by kernel_rfl
def W188 (c : CV) (l : List AV) (h : AH) : R := match l with | [a0, a1, a2, a3] => S188 c a0 a1 a2 a3 h | _ => none
theorem W188_ok : WOk Tryz.prog 188 W188 := by
  intro c l h r e
  unfold W188 at e
  split at e
  · exact ⟨P188, by rw [S188_eq]; exact e⟩
  · cases e
/- slices.partitionOrdered[int] -/
def P189 : Pl := (.n none .z (.n none .z (.n none .z (.n none (.n none (.n (some [11, 10, 1, 0]) (.n none (.n none (.r [[42, 33, 11, 10, 1, 0]]) .z) .z) .z) .z) (.n none (.n none (.n (some [11, 10, 1, 0]) (.n none (.n none (.r [[59, 49, 11, 10, 1, 0]]) .z) .z) .z) .z) (.n none .z (.n none .z (.n none .z (.n none .z (.n none (.n none (.n (some [11, 10, 1, 0]) (.n none (.n none (.n none (.n (some [11, 10, 1, 0]) (.n none (.n none (.r [[111, 102, 11, 10, 1, 0]]) .z) .z) .z) .z) (.n none (.n none (.n (some [11, 10, 1, 0]) (.n none (.n none (.r [[128, 118, 11, 10, 1, 0]]) .z) .z) .z) .z) .z)) .z) .z) .z) .z))))))))))
def S189 (c : CV) (a0 a1 a2 a3 : AV) (h : AH) : R :=
pIdxS a0 a3 1 fun v0 =>
pLoad1 h v0 fun v1 =>
pIdxS a0 a1 1 fun v2 =>
pLoad1 h v2 fun v3 =>
pIdxS a0 a1 1 fun v4 =>
pStore h v4 v1 1 fun h5 =>
pIdxS a0 a3 1 fun v6 =>
pStore h5 v6 v3 1 fun h7 =>
pInt .add a1 (.int .i64 (.ofNat 1)) fun v8 =>
pInt .sub a2 (.int .i64 (.ofNat 1)) fun v9 =>
loopC (σ := AV × AV × AV × AV × Unit) NN (fun i13 s10 h11 d12 =>
pInt .leq s10.2.1 s10.1 fun v14 =>
joinC (α := AV × AV × AV × AV × AV × AV × Unit → AH → R) (fun s15 h16 =>
pPick s15.2.1 s15.1 (.bool false) fun v18 =>
pCond v18 (
pInt .add s15.2.2.2.1 (.int .i64 (.ofNat 1)) fun v19 =>
i13 (s15.2.2.1, v19, s15.2.2.2.2.1, s15.2.2.2.2.2.1, ()) h16 d12) (
loopC (σ := AV × AV × AV × AV × Unit) NN (fun i23 s20 h21 d22 =>
pInt .leq s20.2.1 s20.1 fun v24 =>
joinC (α := AV × AV × AV × AV × AV × AV × Unit → AH → R) (fun s25 h26 =>
pPick s25.2.1 s25.1 (.bool false) fun v28 =>
pCond v28 (
pInt .sub s25.2.2.1 (.int .i64 (.ofNat 1)) fun v29 =>
i23 (v29, s25.2.2.2.1, s25.2.2.2.2.1, s25.2.2.2.2.2.1, ()) h26 d22) (
pInt .gtr s25.2.2.2.1 s25.2.2.1 fun v30 =>
pCond v30 (
pIdxS s25.2.2.2.2.2.1 s25.2.2.2.2.1 1 fun v31 =>
pLoad1 h26 v31 fun v32 =>
pIdxS s25.2.2.2.2.2.1 s25.2.2.1 1 fun v33 =>
pLoad1 h26 v33 fun v34 =>
pIdxS s25.2.2.2.2.2.1 s25.2.2.1 1 fun v35 =>
pStore h26 v35 v32 1 fun h36 =>
pIdxS s25.2.2.2.2.2.1 s25.2.2.2.2.1 1 fun v37 =>
pStore h36 v37 v34 1 fun h38 =>
pLeave d22 h38 fun h39 =>
some ((.tup [s25.2.2.1, (.bool true)]), h39)) (
pIdxS s25.2.2.2.2.2.1 s25.2.2.1 1 fun v40 =>
pLoad1 h26 v40 fun v41 =>
pIdxS s25.2.2.2.2.2.1 s25.2.2.2.1 1 fun v42 =>
pLoad1 h26 v42 fun v43 =>
pIdxS s25.2.2.2.2.2.1 s25.2.2.2.1 1 fun v44 =>
pStore h26 v44 v41 1 fun h45 =>
pIdxS s25.2.2.2.2.2.1 s25.2.2.1 1 fun v46 =>
pStore h45 v46 v43 1 fun h47 =>
pInt .add s25.2.2.2.1 (.int .i64 (.ofNat 1)) fun v48 =>
pInt .sub s25.2.2.1 (.int .i64 (.ofNat 1)) fun v49 =>
loopC (σ := AV × AV × AV × AV × Unit) NN (fun i53 s50 h51 d52 =>
loopC (σ := AV × AV × AV × AV × Unit) NN (fun i57 s54 h55 d56 =>
pInt .leq s54.2.1 s54.1 fun v58 =>
joinC (α := AV × AV × AV × AV × AV × AV × Unit → AH → R) (fun s59 h60 =>
pPick s59.2.1 s59.1 (.bool false) fun v62 =>
pCond v62 (
pInt .add s59.2.2.2.1 (.int .i64 (.ofNat 1)) fun v63 =>
i57 (s59.2.2.1, v63, s59.2.2.2.2.1, s59.2.2.2.2.2.1, ()) h60 d56) (
loopC (σ := AV × AV × AV × AV × Unit) NN (fun i67 s64 h65 d66 =>
pInt .leq s64.2.1 s64.1 fun v68 =>
joinC (α := AV × AV × AV × AV × AV × AV × Unit → AH → R) (fun s69 h70 =>
pPick s69.2.1 s69.1 (.bool false) fun v72 =>
pCond v72 (
pInt .sub s69.2.2.1 (.int .i64 (.ofNat 1)) fun v73 =>
i67 (v73, s69.2.2.2.1, s69.2.2.2.2.1, s69.2.2.2.2.2.1, ()) h70 d66) (
pInt .gtr s69.2.2.2.1 s69.2.2.1 fun v74 =>
pCond v74 (
pIdxS s69.2.2.2.2.2.1 s69.2.2.2.2.1 1 fun v75 =>
pLoad1 h70 v75 fun v76 =>
pIdxS s69.2.2.2.2.2.1 s69.2.2.1 1 fun v77 =>
pLoad1 h70 v77 fun v78 =>
pIdxS s69.2.2.2.2.2.1 s69.2.2.1 1 fun v79 =>
pStore h70 v79 v76 1 fun h80 =>
pIdxS s69.2.2.2.2.2.1 s69.2.2.2.2.1 1 fun v81 =>
pStore h80 v81 v78 1 fun h82 =>
pLeave d66 h82 fun h83 =>
some ((.tup [s69.2.2.1, (.bool false)]), h83)) (
pIdxS s69.2.2.2.2.2.1 s69.2.2.1 1 fun v84 =>
pLoad1 h70 v84 fun v85 =>
pIdxS s69.2.2.2.2.2.1 s69.2.2.2.1 1 fun v86 =>
pLoad1 h70 v86 fun v87 =>
pIdxS s69.2.2.2.2.2.1 s69.2.2.2.1 1 fun v88 =>
pStore h70 v88 v85 1 fun h89 =>
pIdxS s69.2.2.2.2.2.1 s69.2.2.1 1 fun v90 =>
pStore h89 v90 v87 1 fun h91 =>
pInt .add s69.2.2.2.1 (.int .i64 (.ofNat 1)) fun v92 =>
pInt .sub s69.2.2.1 (.int .i64 (.ofNat 1)) fun v93 =>
i53 (v93, v92, s69.2.2.2.2.1, s69.2.2.2.2.2.1, ()) h91 d66))) fun j71 =>
pWant v68 true (
pIdxS s64.2.2.2.1 s64.1 1 fun v94 =>
pLoad1 h65 v94 fun v95 =>
pIdxS s64.2.2.2.1 s64.2.2.1 1 fun v96 =>
pLoad1 h65 v96 fun v97 =>
pCall c (.fn 187 [] []) [v95, v97] h65 fun v98 h99 =>
pUn .not v98 fun v100 =>
j71 (v100, v68, s64.1, s64.2.1, s64.2.2.1, s64.2.2.2.1, ()) h99) (
j71 (.undef, v68, s64.1, s64.2.1, s64.2.2.1, s64.2.2.2.1, ()) h65)) (s59.2.2.1, s59.2.2.2.1, s59.2.2.2.2.1, s59.2.2.2.2.2.1, ()) h60 d56)) fun j61 =>
pWant v58 true (
pIdxS s54.2.2.2.1 s54.2.1 1 fun v101 =>
pLoad1 h55 v101 fun v102 =>
pIdxS s54.2.2.2.1 s54.2.2.1 1 fun v103 =>
pLoad1 h55 v103 fun v104 =>
pCall c (.fn 187 [] []) [v102, v104] h55 fun v105 h106 =>
j61 (v105, v58, s54.1, s54.2.1, s54.2.2.1, s54.2.2.2.1, ()) h106) (
j61 (.undef, v58, s54.1, s54.2.1, s54.2.2.1, s54.2.2.2.1, ()) h55)) (s50.1, s50.2.1, s50.2.2.1, s50.2.2.2.1, ()) h51 d52) (v49, v48, s25.2.2.2.2.1, s25.2.2.2.2.2.1, ()) h47 d22))) fun j27 =>
pWant v24 true (
pIdxS s20.2.2.2.1 s20.1 1 fun v107 =>
pLoad1 h21 v107 fun v108 =>
pIdxS s20.2.2.2.1 s20.2.2.1 1 fun v109 =>
pLoad1 h21 v109 fun v110 =>
pCall c (.fn 187 [] []) [v108, v110] h21 fun v111 h112 =>
pUn .not v111 fun v113 =>
j27 (v113, v24, s20.1, s20.2.1, s20.2.2.1, s20.2.2.2.1, ()) h112) (
j27 (.undef, v24, s20.1, s20.2.1, s20.2.2.1, s20.2.2.2.1, ()) h21)) (s15.2.2.1, s15.2.2.2.1, s15.2.2.2.2.1, s15.2.2.2.2.2.1, ()) h16 d12)) fun j17 =>
pWant v14 true (
pIdxS s10.2.2.2.1 s10.2.1 1 fun v114 =>
pLoad1 h11 v114 fun v115 =>
pIdxS s10.2.2.2.1 s10.2.2.1 1 fun v116 =>
pLoad1 h11 v116 fun v117 =>
pCall c (.fn 187 [] []) [v115, v117] h11 fun v118 h119 =>
j17 (v118, v14, s10.1, s10.2.1, s10.2.2.1, s10.2.2.2.1, ()) h119) (
j17 (.undef, v14, s10.1, s10.2.1, s10.2.2.1, s10.2.2.2.1, ()) h11)) (v9, v8, a1, a0, ()) h7 []
theorem S189_eq (c : CV) (a0 a1 a2 a3 : AV) (h : AH) : enterK Tryz.prog NN P189 c 189 [a0, a1, a2, a3] h = S189 c a0 a1 a2 a3 h := by kernel_rfl
def W189 (c : CV) (l : List AV) (h : AH) : R := match l with | [a0, a1, a2, a3] => S189 c a0 a1 a2 a3 h | _ => none
theorem W189_ok : WOk Tryz.prog 189 W189 := by
  intro c l h r e
  unfold W189 at e
  split at e
  · exact ⟨P189, by rw [S189_eq]; exact e⟩
  · cases e
/- math/bits.Len32 -/
def P190 : Pl := (.n none .z (.n (some [2, 0]) .z (.n (some [2, 0]) .z .z)))
def S190 (_ : CV) (a0 : AV) (h : AH) : R :=
joinC (α := AV × AV × Unit → AH → List Nat → R) (fun s0 h1 d2 =>
joinC (α := AV × AV × Unit → AH → List Nat → R) (fun s4 h5 d6 =>
pConvI .u8 s4.2.1 fun v8 =>
pIdxStr (.str [0, 1, 2, 2, 3, 3, 3, 3, 4, 4, 4, 4, 4, 4, 4, 4, 5, 5, 5, 5, 5, 5, 5, 5, 5, 5, 5, 5, 5, 5, 5, 5, 6, 6, 6, 6, 6, 6, 6, 6, 6, 6, 6, 6, 6, 6, 6, 6, 6, 6, 6, 6, 6, 6, 6, 6, 6, 6, 6, 6, 6, 6, 6, 6, 7, 7, 7, 7, 7, 7, 7, 7, 7, 7, 7, 7, 7, 7, 7, 7, 7, 7, 7, 7, 7, 7, 7, 7, 7, 7, 7, 7, 7, 7, 7, 7, 7, 7, 7, 7, 7, 7, 7, 7, 7, 7, 7, 7, 7, 7, 7, 7, 7, 7, 7, 7, 7, 7, 7, 7, 7, 7, 7, 7, 7, 7, 7, 7, 8, 8, 8, 8, 8, 8, 8, 8, 8, 8, 8, 8, 8, 8, 8, 8, 8, 8, 8, 8, 8, 8, 8, 8, 8, 8, 8, 8, 8, 8, 8, 8, 8, 8, 8, 8, 8, 8, 8, 8, 8, 8, 8, 8, 8, 8, 8, 8, 8, 8, 8, 8, 8, 8, 8, 8, 8, 8, 8, 8, 8, 8, 8, 8, 8, 8, 8, 8, 8, 8, 8, 8, 8, 8, 8, 8, 8, 8, 8, 8, 8, 8, 8, 8, 8, 8, 8, 8, 8, 8, 8, 8, 8, 8, 8, 8, 8, 8, 8, 8, 8, 8, 8, 8, 8, 8, 8, 8, 8, 8, 8, 8, 8, 8, 8, 8, 8, 8, 8, 8, 8, 8, 8, 8, 8, 8, 8, 8]) v8 fun v9 =>
pConvI .i64 v9 fun v10 =>
pInt .add s4.1 v10 fun v11 =>
pLeave d6 h5 fun h12 =>
some (v11, h12)) fun j7 =>
pInt .geq s0.2.1 (.int .u32 (.ofNat 256)) fun v13 =>
pCond v13 (
pShift .shr s0.2.1 (.int .u64 (.ofNat 8)) fun v14 =>
pInt .add s0.1 (.int .i64 (.ofNat 8)) fun v15 =>
j7 (v15, v14, ()) h1 d2) (
j7 (s0.1, s0.2.1, ()) h1 d2)) fun j3 =>
pInt .geq a0 (.int .u32 (.ofNat 65536)) fun v16 =>
pCond v16 (
pShift .shr a0 (.int .u64 (.ofNat 16)) fun v17 =>
j3 ((.int .i64 (.ofNat 16)), v17, ()) h []) (
j3 ((.int .i64 (.ofNat 0)), a0, ()) h [])
theorem S190_eq (c : CV) (a0 : AV) (h : AH) : enterK Tryz.prog NN P190 c 190 [a0] h = S190 c a0 h := by kernel_rfl
def W190 (c : CV) (l : List AV) (h : AH) : R := match l with | [a0] => S190 c a0 h | _ => none
theorem W190_ok : WOk Tryz.prog 190 W190 := by
  intro c l h r e
  unfold W190 at e
  split at e
  · exact ⟨P190, by rw [S190_eq]; exact e⟩
  · cases e
/- math/bits.Len64 -/
def P191 : Pl := (.n none .z (.n (some [2, 0]) .z (.n (some [2, 0]) .z (.n (some [2, 0]) .z .z))))
def S191 (_ : CV) (a0 : AV) (h : AH) : R :=
joinC (α := AV × AV × Unit → AH → List Nat → R) (fun s0 h1 d2 =>
joinC (α := AV × AV × Unit → AH → List Nat → R) (fun s4 h5 d6 =>
joinC (α := AV × AV × Unit → AH → List Nat → R) (fun s8 h9 d10 =>
pConvI .u8 s8.2.1 fun v12 =>
pIdxStr (.str [0, 1, 2, 2, 3, 3, 3, 3, 4, 4, 4, 4, 4, 4, 4, 4, 5, 5, 5, 5, 5, 5, 5, 5, 5, 5, 5, 5, 5, 5, 5, 5, 6, 6, 6, 6, 6, 6, 6, 6, 6, 6, 6, 6, 6, 6, 6, 6, 6, 6, 6, 6, 6, 6, 6, 6, 6, 6, 6, 6, 6, 6, 6, 6, 7, 7, 7, 7, 7, 7, 7, 7, 7, 7, 7, 7, 7, 7, 7, 7, 7, 7, 7, 7, 7, 7, 7, 7, 7, 7, 7, 7, 7, 7, 7, 7, 7, 7, 7, 7, 7, 7, 7, 7, 7, 7, 7, 7, 7, 7, 7, 7, 7, 7, 7, 7, 7, 7, 7, 7, 7, 7, 7, 7, 7, 7, 7, 7, 8, 8, 8, 8, 8, 8, 8, 8, 8, 8, 8, 8, 8, 8, 8, 8, 8, 8, 8, 8, 8, 8, 8, 8, 8, 8, 8, 8, 8, 8, 8, 8, 8, 8, 8, 8, 8, 8, 8, 8, 8, 8, 8, 8, 8, 8, 8, 8, 8, 8, 8, 8, 8, 8, 8, 8, 8, 8, 8, 8, 8, 8, 8, 8, 8, 8, 8, 8, 8, 8, 8, 8, 8, 8, 8, 8, 8, 8, 8, 8, 8, 8, 8, 8, 8, 8, 8, 8, 8, 8, 8, 8, 8, 8, 8, 8, 8, 8, 8, 8, 8, 8, 8, 8, 8, 8, 8, 8, 8, 8, 8, 8, 8, 8, 8, 8, 8, 8, 8, 8, 8, 8, 8, 8, 8, 8, 8, 8]) v12 fun v13 =>
pConvI .i64 v13 fun v14 =>
pInt .add s8.1 v14 fun v15 =>
pLeave d10 h9 fun h16 =>
some (v15, h16)) fun j11 =>
pInt .geq s4.2.1 (.int .u64 (.ofNat 256)) fun v17 =>
pCond v17 (
pShift .shr s4.2.1 (.int .u64 (.ofNat 8)) fun v18 =>
pInt .add s4.1 (.int .i64 (.ofNat 8)) fun v19 =>
j11 (v19, v18, ()) h5 d6) (
j11 (s4.1, s4.2.1, ()) h5 d6)) fun j7 =>
pInt .geq s0.2.1 (.int .u64 (.ofNat 65536)) fun v20 =>
pCond v20 (
pShift .shr s0.2.1 (.int .u64 (.ofNat 16)) fun v21 =>
pInt .add s0.1 (.int .i64 (.ofNat 16)) fun v22 =>
j7 (v22, v21, ()) h1 d2) (
j7 (s0.1, s0.2.1, ()) h1 d2)) fun j3 =>
pInt .geq a0 (.int .u64 (.ofNat 4294967296)) fun v23 =>
pCond v23 (
pShift .shr a0 (.int .u64 (.ofNat 32)) fun v24 =>
j3 ((.int .i64 (.ofNat 32)), v24, ()) h []) (
j3 ((.int .i64 (.ofNat 0)), a0, ()) h [])
theorem S191_eq (c : CV) (a0 : AV) (h : AH) : enterK Tryz.prog NN P191 c 191 [a0] h = S191 c a0 h := by kernel_rfl
def W191 (c : CV) (l : List AV) (h : AH) : R := match l with | [a0] => S191 c a0 h | _ => none
theorem W191_ok : WOk Tryz.prog 191 W191 := by
  intro c l h r e
  unfold W191 at e
  split at e
  · exact ⟨P191, by rw [S191_eq]; exact e⟩
  · cases e
/- internal/strconv.log10Pow2 -/
def P192 : Pl := .z
def S192 (_ : CV) (a0 : AV) (h : AH) : R :=
pInt .mul a0 (.int .i64 (.ofNat 78913)) fun v0 =>
pShift .shr v0 (.int .u64 (.ofNat 18)) fun v1 =>
some (v1, h)
theorem S192_eq (c : CV) (a0 : AV) (h : AH) : enterK Tryz.prog NN P192 c 192 [a0] h = S192 c a0 h := by kernel_rfl
def W192 (c : CV) (l : List AV) (h : AH) : R := match l with | [a0] => S192 c a0 h | _ => none
theorem W192_ok : WOk Tryz.prog 192 W192 := by
  intro c l h r e
  unfold W192 at e
  split at e
  · exact ⟨P192, by rw [S192_eq]; exact e⟩
  · cases e
/- internal/strconv.bool2[int] -/
def P193 : Pl := .z
def S193 (_ : CV) (a0 : AV) (h : AH) : R :=
pCond a0 (
some ((.int .i64 (.ofNat 1)), h)) (
some ((.int .i64 (.ofNat 0)), h))
theorem S193_eq (c : CV) (a0 : AV) (h : AH) : enterK Tryz.prog NN P193 c 193 [a0] h = S193 c a0 h := by kernel_rfl
def W193 (c : CV) (l : List AV) (h : AH) : R := match l with | [a0] => S193 c a0 h | _ => none
theorem W193_ok : WOk Tryz.prog 193 W193 := by
  intro c l h r e
  unfold W193 at e
  split at e
  · exact ⟨P193, by rw [S193_eq]; exact e⟩
  · cases e
/- internal/strconv.isPowerOfTwo -/
def P194 : Pl := .z
def S194 (_ : CV) (a0 : AV) (h : AH) : R :=
pInt .sub a0 (.int .i64 (.ofNat 1)) fun v0 =>
pInt .and a0 v0 fun v1 =>
pInt .eql v1 (.int .i64 (.ofNat 0)) fun v2 =>
some (v2, h)
theorem S194_eq (c : CV) (a0 : AV) (h : AH) : enterK Tryz.prog NN P194 c 194 [a0] h = S194 c a0 h := by kernel_rfl
def W194 (c : CV) (l : List AV) (h : AH) : R := match l with | [a0] => S194 c a0 h | _ => none
theorem W194_ok : WOk Tryz.prog 194 W194 := by
  intro c l h r e
  unfold W194 at e
  split at e
  · exact ⟨P194, by rw [S194_eq]; exact e⟩
  · cases e
/- math/bits.TrailingZeros -/
def P195 : Pl := .z
def S195 (c : CV) (a0 : AV) (h : AH) : R :=
pCond (.bool false) (
pConvI .u32 a0 fun v0 =>
pCall c (.fn 249 [] []) [v0] h fun v1 h2 =>
some (v1, h2)) (
pCall c (.fn 250 [] []) [a0] h fun v3 h4 =>
some (v3, h4))
theorem S195_eq (c : CV) (a0 : AV) (h : AH) : enterK Tryz.prog NN P195 c 195 [a0] h = S195 c a0 h := by kernel_rfl
def W195 (c : CV) (l : List AV) (h : AH) : R := match l with | [a0] => S195 c a0 h | _ => none
theorem W195_ok : WOk Tryz.prog 195 W195 := by
  intro c l h r e
  unfold W195 at e
  split at e
  · exact ⟨P195, by rw [S195_eq]; exact e⟩
  · cases e
/- (*quietus/interp.Interp).truth$1 -/
def P196 : Pl := (.n none .z (.n none .z (.n none .z (.n none (.r [[]]) .z))))
def S196 (c : CV) (a0 a1 a2 a3 : AV) (h : AH) : R :=
pInt .neq a1 (.int .i64 (.ofNat 0)) fun v0 =>
pCond v0 (
some (a1, h)) (
pLoad1 h a2 fun v1 =>
pNil v1 fun v2 =>
pFieldA v2 14 fun v3 =>
pLoad1 h v3 fun v4 =>
pCall c (.fn 197 [] []) [v4, a0] h fun v5 h6 =>
pUn .not v5 fun v7 =>
pCond v7 (
some ((.int .i64 (.ofNat 5)), h6)) (
joinC (α := Unit → AH → R) (fun _ h9 =>
some ((.int .i64 (.ofNat 0)), h9)) fun j10 =>
pLoad1 h6 a2 fun v11 =>
pFieldA a3 3 fun v12 =>
pLoad1 h6 v12 fun v13 =>
pCall c (.fn 128 [] []) [a0] h6 fun v14 h15 =>
pNil v11 fun v16 =>
pFieldA v16 6 fun v17 =>
pIdxP v17 v13 8 1 fun v18 =>
pStore h15 v18 v14 1 fun h19 =>
pChk v12 none v13 h6 h15 h6.nx <|
pChk a2 none v11 h6 h15 h6.nx <|
j10 (()) h19))
theorem S196_eq (c : CV) (a0 a1 a2 a3 : AV) (h : AH) : enterK Tryz.prog NN P196 c 196 [a0, a1, a2, a3] h = S196 c a0 a1 a2 a3 h := by kernel_rfl
def W196 (c : CV) (l : List AV) (h : AH) : R := match l with | [a0, a1, a2, a3] => S196 c a0 a1 a2 a3 h | _ => none
theorem W196_ok : WOk Tryz.prog 196 W196 := by
  intro c l h r e
  unfold W196 at e
  split at e
  · exact ⟨P196, by rw [S196_eq]; exact e⟩
  · cases e
/- (*quietus/slate.Slate).AddTruth -/
def P197 : Pl := .z
def S197 (c : CV) (a0 a1 : AV) (h : AH) : R :=
pCall c (.fn 152 [] []) [a0, (.iface 4 a1)] h fun v0 h1 =>
some (v0, h1)
theorem S197_eq (c : CV) (a0 a1 : AV) (h : AH) : enterK Tryz.prog NN P197 c 197 [a0, a1] h = S197 c a0 a1 h := by kernel_rfl
def W197 (c : CV) (l : List AV) (h : AH) : R := match l with | [a0, a1] => S197 c a0 a1 h | _ => none
theorem W197_ok : WOk Tryz.prog 197 W197 := by
  intro c l h r e
  unfold W197 at e
  split at e
  · exact ⟨P197, by rw [S197_eq]; exact e⟩
  · cases e
/- quietus/draft.Do -/
def P198 : Pl := (.n none .z (.n none (.n none (.r [[17, 15, 2, 0]]) .z) (.n none .z (.n none .z (.n none .z (.n none .z (.n none .z (.n none (.n none .z (.n none (.n (some [67, 66, 65, 0]) .z .z) .z)) .z))))))))
def S198 (c : CV) (a0 a1 a2 : AV) (h : AH) : R :=
pInt .lss a1 (.int .i64 (.ofNat 6)) fun v0 =>
joinC (α := AV × AV × AV × AV × Unit → AH → R) (fun s1 h2 =>
pPick s1.2.1 (.bool true) s1.1 fun v4 =>
pCond v4 (
some ((.int .i64 (.ofNat 2)), h2)) (
pCall c (.fn 251 [] []) [s1.2.2.2.1] h2 fun v5 h6 =>
pBuild [.nilp, (.int .i64 (.ofNat 0)), (.int .i64 (.ofNat 0))] [(0, 1, v5)] fun v7 =>
pBox h6 291 v7 fun v8 h9 =>
pCall c s1.2.2.1 [v8] h9 fun _ h11 =>
pNil v8 fun v12 =>
pFieldA v12 1 fun v13 =>
pLoad1 h11 v13 fun v14 =>
pInt .eql v14 (.int .i64 (.ofNat 11)) fun v15 =>
pCond v15 (
pNil v8 fun v16 =>
pFieldA v16 0 fun v17 =>
pLoad1 h11 v17 fun v18 =>
pCall c (.fn 45 [] []) [v18] h11 fun v19 h20 =>
pCall c (.fn 105 [] []) [s1.2.2.2.1, v19] h20 fun v21 h22 =>
pExtract v21 0 fun _ =>
pExtract v21 1 fun v24 =>
some (v24, h22)) (
pNil v8 fun v25 =>
pFieldA v25 1 fun v26 =>
pLoad1 h11 v26 fun v27 =>
pInt .neq v27 (.int .i64 (.ofNat 0)) fun v28 =>
pCond v28 (
pNil v8 fun v29 =>
pFieldA v29 1 fun v30 =>
pLoad1 h11 v30 fun v31 =>
some (v31, h11)) (
pNil v8 fun v32 =>
pFieldA v32 0 fun v33 =>
pLoad1 h11 v33 fun v34 =>
pCall c (.fn 47 [] []) [v34] h11 fun v35 h36 =>
pCall c (.fn 107 [] []) [s1.2.2.2.1, v35] h36 fun v37 h38 =>
pInt .neq v37 (.int .i64 (.ofNat 0)) fun v39 =>
pCond v39 (
some (v37, h38)) (
pNil v8 fun v40 =>
pFieldA v40 0 fun v41 =>
pLoad1 h38 v41 fun v42 =>
pCall c (.fn 252 [] []) [v42] h38 fun v43 h44 =>
pLenS v43 fun v45 =>
loopC (σ := AV × AV × AV × AV × Unit) NN (fun i49 s46 h47 d48 =>
pInt .lss s46.1 s46.2.1 fun v50 =>
pCond v50 (
pIdxS s46.2.2.1 s46.1 1 fun v51 =>
pLoad1 h47 v51 fun v52 =>
pCall c (.fn 234 [] []) [s46.2.2.2.1, v52] h47 fun _ h54 =>
pInt .add s46.1 (.int .i64 (.ofNat 1)) fun v55 =>
i49 (v55, s46.2.1, s46.2.2.1, s46.2.2.2.1, ()) h54 d48) (
pLeave d48 h47 fun h56 =>
some ((.int .i64 (.ofNat 0)), h56))) ((.int .i64 (.ofNat 0)), v45, v43, s1.2.2.2.1, ()) h44 []))))) fun j3 =>
pWant v0 false (
pInt .geq a1 (.int .i64 (.ofNat 14)) fun v57 =>
j3 (v57, v0, a2, a0, ()) h) (
j3 (.undef, v0, a2, a0, ()) h)
theorem S198_eq (c : CV) (a0 a1 a2 : AV) (h : AH) : enterK Tryz.prog NN P198 c 198 [a0, a1, a2] h = S198 c a0 a1 a2 h := by kernel_rfl
def W198 (c : CV) (l : List AV) (h : AH) : R := match l with | [a0, a1, a2] => S198 c a0 a1 a2 h | _ => none
theorem W198_ok : WOk Tryz.prog 198 W198 := by
  intro c l h r e
  unfold W198 at e
  split at e
  · exact ⟨P198, by rw [S198_eq]; exact e⟩
  · cases e
/- quietus/list.Add$1 -/
def P199 : Pl := (.n none .z (.n none (.n none (.r [[22, 18, 6, 5, 3, 2, 0]]) .z) .z))
def S199 (c : CV) (a0 a1 a2 a3 : AV) (h : AH) : R :=
pLoad1 h a1 fun v0 =>
pLoad1 h a2 fun v1 =>
pCall c (.fn 200 [] []) [a0, v0, v1] h fun v2 h3 =>
pExtract v2 0 fun v4 =>
pExtract v2 1 fun v5 =>
pCall c (.fn 201 [] []) [a0] h3 fun v6 h7 =>
pUn .not v6 fun v8 =>
joinC (α := AV × AV × AV × AV × AV × AV × AV × Unit → AH → R) (fun s9 h10 =>
pPick s9.2.1 (.bool true) s9.1 fun v12 =>
pCond v12 (
some ((.tup []), h10)) (
pCall c (.fn 203 [] []) [s9.2.2.2.2.2.2.1, (.int .i64 (.ofNat 2))] h10 fun v13 h14 =>
pInt .add v13 (.int .i64 (.ofNat 0)) fun v15 =>
pLoad1 h14 s9.2.2.2.2.2.1 fun v16 =>
pCall c (.fn 204 [] []) [s9.2.2.2.2.2.2.1, v15, v16] h14 fun _ h18 =>
pInt .add v13 (.int .i64 (.ofNat 1)) fun v19 =>
pCall c (.fn 205 [] []) [s9.2.2.2.2.2.2.1, v19, s9.2.2.1] h18 fun _ h21 =>
pCall c (.fn 205 [] []) [s9.2.2.2.2.2.2.1, s9.2.2.2.1, v13] h21 fun _ h23 =>
pStore h23 s9.2.2.2.2.1 (.bool true) 1 fun h24 =>
some ((.tup []), h24))) fun j11 =>
pWant v8 false (
pLoad1 h7 a2 fun v25 =>
pCall c (.fn 202 [] []) [a0, v5, v25] h7 fun v26 h27 =>
j11 (v26, v8, v5, v4, a3, a2, a0, ()) h27) (
j11 (.undef, v8, v5, v4, a3, a2, a0, ()) h7)
theorem S199_eq (c : CV) (a0 a1 a2 a3 : AV) (h : AH) : enterK Tryz.prog NN P199 c 199 [a0, a1, a2, a3] h = S199 c a0 a1 a2 a3 h := by kernel_rfl
def W199 (c : CV) (l : List AV) (h : AH) : R := match l with | [a0, a1, a2, a3] => S199 c a0 a1 a2 a3 h | _ => none
theorem W199_ok : WOk Tryz.prog 199 W199 := by
  intro c l h r e
  unfold W199 at e
  split at e
  · exact ⟨P199, by rw [S199_eq]; exact e⟩
  · cases e
/- quietus/list.seek -/
def P200 : Pl := (.n none .z (.n none .z (.n none (.n (some [7, 6]) (.n (some [7, 6, 2, 0]) (.n none .z (.n none (.n none .z (.n none (.n none (.r [[22, 16, 7, 6, 2, 0]]) .z) .z)) .z)) .z) .z) .z)))
def S200 (c : CV) (a0 a1 a2 : AV) (h : AH) : R :=
joinC (α := AV × AV × Unit → AH → List Nat → R) (fun s0 h1 d2 =>
pLeave d2 h1 fun h4 =>
some ((.tup [s0.2.1, s0.1]), h4)) fun j3 =>
loopC (σ := AV × AV × AV × AV × Unit) NN (fun i8 s5 h6 d7 =>
pCall c (.fn 253 [] []) [s5.2.2.2.1] h6 fun v9 h10 =>
pCond v9 (
pCall c (.fn 254 [] []) [s5.2.2.2.1, s5.2.1] h10 fun v11 h12 =>
pInt .eql v11 (.int .i64 (.ofNat 0)) fun v13 =>
joinC (α := AV × AV × AV × AV × AV × AV × Unit → AH → R) (fun s14 h15 =>
pPick s14.2.1 (.bool true) s14.1 fun v17 =>
pCond v17 (
j3 (s14.2.2.1, s14.2.2.2.1, ()) h15 d7) (
pInt .add s14.2.2.1 (.int .i64 (.ofNat 1)) fun v18 =>
i8 (s14.2.2.1, v18, s14.2.2.2.2.1, s14.2.2.2.2.2.1, ()) h15 d7)) fun j16 =>
pWant v13 false (
pInt .add v11 (.int .i64 (.ofNat 0)) fun v19 =>
pCall c (.fn 207 [] []) [s5.2.2.2.1, v19] h12 fun v20 h21 =>
pInt .geq v20 s5.2.2.1 fun v22 =>
j16 (v22, v13, v11, s5.2.1, s5.2.2.1, s5.2.2.2.1, ()) h21) (
j16 (.undef, v13, v11, s5.2.1, s5.2.2.1, s5.2.2.2.1, ()) h12)) (
j3 (s5.1, s5.2.1, ()) h10 d7)) ((.int .i64 (.ofNat 0)), a1, a2, a0, ()) h []
theorem S200_eq (c : CV) (a0 a1 a2 : AV) (h : AH) : enterK Tryz.prog NN P200 c 200 [a0, a1, a2] h = S200 c a0 a1 a2 h := by kernel_rfl
def W200 (c : CV) (l : List AV) (h : AH) : R := match l with | [a0, a1, a2] => S200 c a0 a1 a2 h | _ => none
theorem W200_ok : WOk Tryz.prog 200 W200 := by
  intro c l h r e
  unfold W200 at e
  split at e
  · exact ⟨P200, by rw [S200_eq]; exact e⟩
  · cases e
/- (*quietus/draft.Draft).OK -/
def P201 : Pl := .z
def S201 (_ : CV) (a0 : AV) (h : AH) : R :=
pNil a0 fun v0 =>
pFieldA v0 1 fun v1 =>
pLoad1 h v1 fun v2 =>
pInt .eql v2 (.int .i64 (.ofNat 0)) fun v3 =>
some (v3, h)
theorem S201_eq (c : CV) (a0 : AV) (h : AH) : enterK Tryz.prog NN P201 c 201 [a0] h = S201 c a0 h := by kernel_rfl
def W201 (c : CV) (l : List AV) (h : AH) : R := match l with | [a0] => S201 c a0 h | _ => none
theorem W201_ok : WOk Tryz.prog 201 W201 := by
  intro c l h r e
  unfold W201 at e
  split at e
  · exact ⟨P201, by rw [S201_eq]; exact e⟩
  · cases e
/- quietus/list.found -/
def P202 : Pl := (.n none .z (.n none (.r [[11, 9, 2, 1, 0], [19, 13]]) .z))
def S202 (c : CV) (a0 a1 a2 : AV) (h : AH) : R :=
pCall c (.fn 201 [] []) [a0] h fun v0 h1 =>
joinC (α := AV × AV × AV × AV × AV × Unit → AH → R) (fun s2 h3 =>
pPick s2.2.1 s2.1 (.bool false) fun v5 =>
joinC (α := AV × AV × Unit → AH → R) (fun s6 h7 =>
pPick s6.2.1 s6.1 (.bool false) fun v9 =>
some (v9, h7)) fun j8 =>
pWant v5 true (
pInt .add s2.2.2.2.1 (.int .i64 (.ofNat 0)) fun v10 =>
pCall c (.fn 207 [] []) [s2.2.2.2.2.1, v10] h3 fun v11 h12 =>
pInt .eql v11 s2.2.2.1 fun v13 =>
j8 (v13, v5, ()) h12) (
j8 (.undef, v5, ()) h3)) fun j4 =>
pWant v0 true (
pInt .neq a1 (.int .i64 (.ofNat 0)) fun v14 =>
j4 (v14, v0, a2, a1, a0, ()) h1) (
j4 (.undef, v0, a2, a1, a0, ()) h1)
theorem S202_eq (c : CV) (a0 a1 a2 : AV) (h : AH) : enterK Tryz.prog NN P202 c 202 [a0, a1, a2] h = S202 c a0 a1 a2 h := by kernel_rfl
def W202 (c : CV) (l : List AV) (h : AH) : R := match l with | [a0, a1, a2] => S202 c a0 a1 a2 h | _ => none
theorem W202_ok : WOk Tryz.prog 202 W202 := by
  intro c l h r e
  unfold W202 at e
  split at e
  · exact ⟨P202, by rw [S202_eq]; exact e⟩
  · cases e
/- (*quietus/draft.Draft).Alloc -/
def P203 : Pl := .z
def S203 (c : CV) (a0 a1 : AV) (h : AH) : R :=
pCall c (.fn 201 [] []) [a0] h fun v0 h1 =>
pUn .not v0 fun v2 =>
pCond v2 (
some ((.int .i64 (.ofNat 0)), h1)) (
pNil a0 fun v3 =>
pFieldA v3 0 fun v4 =>
pLoad1 h1 v4 fun v5 =>
pCall c (.fn 169 [] []) [v5, a1] h1 fun v6 h7 =>
pExtract v6 0 fun v8 =>
pExtract v6 1 fun v9 =>
pCall c (.fn 255 [] []) [a0, v9] h7 fun _ h11 =>
some (v8, h11))
theorem S203_eq (c : CV) (a0 a1 : AV) (h : AH) : enterK Tryz.prog NN P203 c 203 [a0, a1] h = S203 c a0 a1 h := by kernel_rfl
def W203 (c : CV) (l : List AV) (h : AH) : R := match l with | [a0, a1] => S203 c a0 a1 h | _ => none
theorem W203_ok : WOk Tryz.prog 203 W203 := by
  intro c l h r e
  unfold W203 at e
  split at e
  · exact ⟨P203, by rw [S203_eq]; exact e⟩
  · cases e
/- (*quietus/draft.Draft).Write -/
def P204 : Pl := .z
def S204 (c : CV) (a0 a1 a2 : AV) (h : AH) : R :=
pCall c (.fn 201 [] []) [a0] h fun v0 h1 =>
pCond v0 (
pNil a0 fun v2 =>
pFieldA v2 0 fun v3 =>
pLoad1 h1 v3 fun v4 =>
pCall c (.fn 168 [] []) [v4, a1, a2] h1 fun v5 h6 =>
pCall c (.fn 255 [] []) [a0, v5] h6 fun _ h8 =>
some ((.tup []), h8)) (
some ((.tup []), h1))
theorem S204_eq (c : CV) (a0 a1 a2 : AV) (h : AH) : enterK Tryz.prog NN P204 c 204 [a0, a1, a2] h = S204 c a0 a1 a2 h := by kernel_rfl
def W204 (c : CV) (l : List AV) (h : AH) : R := match l with | [a0, a1, a2] => S204 c a0 a1 a2 h | _ => none
theorem W204_ok : WOk Tryz.prog 204 W204 := by
  intro c l h r e
  unfold W204 at e
  split at e
  · exact ⟨P204, by rw [S204_eq]; exact e⟩
  · cases e
/- (*quietus/draft.Draft).Point -/
def P205 : Pl := .z
def S205 (c : CV) (a0 a1 a2 : AV) (h : AH) : R :=
pConvI .u64 a2 fun v0 =>
pCall c (.fn 204 [] []) [a0, a1, v0] h fun _ h2 =>
some ((.tup []), h2)
theorem S205_eq (c : CV) (a0 a1 a2 : AV) (h : AH) : enterK Tryz.prog NN P205 c 205 [a0, a1, a2] h = S205 c a0 a1 a2 h := by kernel_rfl
def W205 (c : CV) (l : List AV) (h : AH) : R := match l with | [a0, a1, a2] => S205 c a0 a1 a2 h | _ => none
theorem W205_ok : WOk Tryz.prog 205 W205 := by
  intro c l h r e
  unfold W205 at e
  split at e
  · exact ⟨P205, by rw [S205_eq]; exact e⟩
  · cases e
/- quietus/list.Cut$1 -/
def P206 : Pl := .z
def S206 (c : CV) (a0 a1 a2 a3 : AV) (h : AH) : R :=
pLoad1 h a1 fun v0 =>
pLoad1 h a2 fun v1 =>
pCall c (.fn 200 [] []) [a0, v0, v1] h fun v2 h3 =>
pExtract v2 0 fun v4 =>
pExtract v2 1 fun v5 =>
pLoad1 h3 a2 fun v6 =>
pCall c (.fn 202 [] []) [a0, v5, v6] h3 fun v7 h8 =>
pCond v7 (
pInt .add v5 (.int .i64 (.ofNat 1)) fun v9 =>
pCall c (.fn 207 [] []) [a0, v9] h8 fun v10 h11 =>
pCall c (.fn 204 [] []) [a0, v4, v10] h11 fun _ h13 =>
pCall c (.fn 208 [] []) [a0, v5] h13 fun _ h15 =>
pStore h15 a3 (.bool true) 1 fun h16 =>
some ((.tup []), h16)) (
some ((.tup []), h8))
theorem S206_eq (c : CV) (a0 a1 a2 a3 : AV) (h : AH) : enterK Tryz.prog NN P206 c 206 [a0, a1, a2, a3] h = S206 c a0 a1 a2 a3 h := by kernel_rfl
def W206 (c : CV) (l : List AV) (h : AH) : R := match l with | [a0, a1, a2, a3] => S206 c a0 a1 a2 a3 h | _ => none
theorem W206_ok : WOk Tryz.prog 206 W206 := by
  intro c l h r e
  unfold W206 at e
  split at e
  · exact ⟨P206, by rw [S206_eq]; exact e⟩
  · cases e
/- (*quietus/draft.Draft).Read -/
def P207 : Pl := .z
def S207 (c : CV) (a0 a1 : AV) (h : AH) : R :=
pCall c (.fn 201 [] []) [a0] h fun v0 h1 =>
pUn .not v0 fun v2 =>
pCond v2 (
some ((.int .u64 (.ofNat 0)), h1)) (
pNil a0 fun v3 =>
pFieldA v3 0 fun v4 =>
pLoad1 h1 v4 fun v5 =>
pCall c (.fn 105 [] []) [v5, a1] h1 fun v6 h7 =>
pExtract v6 0 fun v8 =>
pExtract v6 1 fun v9 =>
pCall c (.fn 255 [] []) [a0, v9] h7 fun _ h11 =>
some (v8, h11))
theorem S207_eq (c : CV) (a0 a1 : AV) (h : AH) : enterK Tryz.prog NN P207 c 207 [a0, a1] h = S207 c a0 a1 h := by kernel_rfl
def W207 (c : CV) (l : List AV) (h : AH) : R := match l with | [a0, a1] => S207 c a0 a1 h | _ => none
theorem W207_ok : WOk Tryz.prog 207 W207 := by
  intro c l h r e
  unfold W207 at e
  split at e
  · exact ⟨P207, by rw [S207_eq]; exact e⟩
  · cases e
/- (*quietus/draft.Draft).Free -/
def P208 : Pl := .z
def S208 (c : CV) (a0 a1 : AV) (h : AH) : R :=
pCall c (.fn 201 [] []) [a0] h fun v0 h1 =>
pCond v0 (
pNil a0 fun v2 =>
pFieldA v2 0 fun v3 =>
pLoad1 h1 v3 fun v4 =>
pCall c (.fn 170 [] []) [v4, a1] h1 fun v5 h6 =>
pCall c (.fn 255 [] []) [a0, v5] h6 fun _ h8 =>
some ((.tup []), h8)) (
some ((.tup []), h1))
theorem S208_eq (c : CV) (a0 a1 : AV) (h : AH) : enterK Tryz.prog NN P208 c 208 [a0, a1] h = S208 c a0 a1 h := by kernel_rfl
def W208 (c : CV) (l : List AV) (h : AH) : R := match l with | [a0, a1] => S208 c a0 a1 h | _ => none
theorem W208_ok : WOk Tryz.prog 208 W208 := by
  intro c l h r e
  unfold W208 at e
  split at e
  · exact ⟨P208, by rw [S208_eq]; exact e⟩
  · cases e
/- quietus/list.Has$1 -/
def P209 : Pl := .z
def S209 (c : CV) (a0 a1 a2 a3 : AV) (h : AH) : R :=
pLoad1 h a1 fun v0 =>
pLoad1 h a2 fun v1 =>
pCall c (.fn 200 [] []) [a0, v0, v1] h fun v2 h3 =>
pExtract v2 0 fun _ =>
pExtract v2 1 fun v5 =>
pLoad1 h3 a2 fun v6 =>
pCall c (.fn 202 [] []) [a0, v5, v6] h3 fun v7 h8 =>
pStore h8 a3 v7 1 fun h9 =>
some ((.tup []), h9)
theorem S209_eq (c : CV) (a0 a1 a2 a3 : AV) (h : AH) : enterK Tryz.prog NN P209 c 209 [a0, a1, a2, a3] h = S209 c a0 a1 a2 a3 h := by kernel_rfl
def W209 (c : CV) (l : List AV) (h : AH) : R := match l with | [a0, a1, a2, a3] => S209 c a0 a1 a2 a3 h | _ => none
theorem W209_ok : WOk Tryz.prog 209 W209 := by
  intro c l h r e
  unfold W209 at e
  split at e
  · exact ⟨P209, by rw [S209_eq]; exact e⟩
  · cases e
/- quietus/table.Put$1 -/
def P210 : Pl := (.n none .z (.n (some [6, 4, 3, 2, 0]) (.n none (.r [[20, 15, 6, 4, 3, 2, 1, 0]]) .z) (.n none .z (.n none .z (.n none .z (.n (some [7, 6, 4, 3, 2, 0]) (.n none (.r [[53, 43, 7, 6, 4, 3, 2, 0], [60, 55, 7, 6, 4, 3, 2, 0]]) .z) .z))))))
def S210 (c : CV) (a0 a1 a2 a3 a4 : AV) (h : AH) : R :=
pLoad1 h a1 fun v0 =>
pCall c (.fn 211 [] []) [a0, v0] h fun v1 h2 =>
joinC (α := AV × AV × AV × AV × AV × Unit → AH → List Nat → R) (fun s3 h4 d5 =>
pCall c (.fn 201 [] []) [s3.2.2.2.2.1] h4 fun v7 h8 =>
pUn .not v7 fun v9 =>
pCond v9 (
pLeave d5 h8 fun h10 =>
some ((.tup []), h10)) (
pLoad1 h8 s3.2.2.2.1 fun v11 =>
pCall c (.fn 213 [] []) [s3.1, v11] h8 fun v12 h13 =>
pExtract v12 0 fun v14 =>
pExtract v12 1 fun v15 =>
pInt .neq v15 (.int .i64 (.ofNat 0)) fun v16 =>
pCond v16 (
pInt .add v15 (.int .i64 (.ofNat 1)) fun v17 =>
pLoad1 h13 s3.2.2.1 fun v18 =>
pCall c (.fn 204 [] []) [s3.2.2.2.2.1, v17, v18] h13 fun _ h20 =>
pLeave d5 h20 fun h21 =>
some ((.tup []), h21)) (
joinC (α := AV × AV × AV × AV × AV × AV × Unit → AH → List Nat → R) (fun s22 h23 d24 =>
pCall c (.fn 203 [] []) [s22.2.2.2.2.2.1, (.int .i64 (.ofNat 3))] h23 fun v26 h27 =>
pInt .add v26 (.int .i64 (.ofNat 0)) fun v28 =>
pLoad1 h27 s22.2.2.2.2.1 fun v29 =>
pCall c (.fn 204 [] []) [s22.2.2.2.2.2.1, v28, v29] h27 fun _ h31 =>
pInt .add v26 (.int .i64 (.ofNat 1)) fun v32 =>
pLoad1 h31 s22.2.2.2.1 fun v33 =>
pCall c (.fn 204 [] []) [s22.2.2.2.2.2.1, v32, v33] h31 fun _ h35 =>
pInt .add v26 (.int .i64 (.ofNat 2)) fun v36 =>
pCall c (.fn 205 [] []) [s22.2.2.2.2.2.1, v36, (.int .i64 (.ofNat 0))] h35 fun _ h38 =>
pCall c (.fn 205 [] []) [s22.2.2.2.2.2.1, s22.1, v26] h38 fun _ h40 =>
pNil s22.2.1 fun v41 =>
pFieldA v41 1 fun v42 =>
pLoad1 h40 v42 fun v43 =>
pInt .add v43 (.int .i64 (.ofNat 0)) fun v44 =>
pNil s22.2.1 fun v45 =>
pFieldA v45 4 fun v46 =>
pLoad1 h40 v46 fun v47 =>
pInt .add v47 (.int .u64 (.ofNat 1)) fun v48 =>
pCall c (.fn 204 [] []) [s22.2.2.2.2.2.1, v44, v48] h40 fun _ h50 =>
pStore h50 s22.2.2.1 (.bool true) 1 fun h51 =>
pLeave d24 h51 fun h52 =>
some ((.tup []), h52)) fun j25 =>
pCall c (.fn 201 [] []) [s3.2.2.2.2.1] h13 fun v53 h54 =>
joinC (α := AV × AV × AV × AV × AV × AV × AV × AV × Unit → AH → R) (fun s55 h56 =>
pPick s55.2.1 s55.1 (.bool false) fun v58 =>
joinC (α := AV × AV × AV × AV × AV × AV × AV × AV × Unit → AH → R) (fun s59 h60 =>
pPick s59.2.1 s59.1 (.bool false) fun v62 =>
pCond v62 (
pCall c (.fn 214 [] []) [s59.2.2.2.1] h60 fun _ h64 =>
pLoad1 h64 s59.2.2.2.2.2.2.1 fun v65 =>
pCall c (.fn 213 [] []) [s59.2.2.2.1, v65] h64 fun v66 h67 =>
pExtract v66 0 fun v68 =>
pExtract v66 1 fun _ =>
j25 (v68, s59.2.2.2.1, s59.2.2.2.2.1, s59.2.2.2.2.2.1, s59.2.2.2.2.2.2.1, s59.2.2.2.2.2.2.2.1, ()) h67 d5) (
j25 (s59.2.2.1, s59.2.2.2.1, s59.2.2.2.2.1, s59.2.2.2.2.2.1, s59.2.2.2.2.2.2.1, s59.2.2.2.2.2.2.2.1, ()) h60 d5)) fun j61 =>
pWant v58 true (
pNil s55.2.2.2.1 fun v70 =>
pFieldA v70 2 fun v71 =>
pLoad1 h56 v71 fun v72 =>
pInt .lss v72 (.int .i64 (.ofNat 16)) fun v73 =>
j61 (v73, v58, s55.2.2.1, s55.2.2.2.1, s55.2.2.2.2.1, s55.2.2.2.2.2.1, s55.2.2.2.2.2.2.1, s55.2.2.2.2.2.2.2.1, ()) h56) (
j61 (.undef, v58, s55.2.2.1, s55.2.2.2.1, s55.2.2.2.2.1, s55.2.2.2.2.2.1, s55.2.2.2.2.2.2.1, s55.2.2.2.2.2.2.2.1, ()) h56)) fun j57 =>
pWant v53 true (
pNil s3.1 fun v74 =>
pFieldA v74 4 fun v75 =>
pLoad1 h54 v75 fun v76 =>
pNil s3.1 fun v77 =>
pFieldA v77 2 fun v78 =>
pLoad1 h54 v78 fun v79 =>
pConvI .u64 v79 fun v80 =>
pInt .geq v76 v80 fun v81 =>
j57 (v81, v53, v14, s3.1, s3.2.1, s3.2.2.1, s3.2.2.2.1, s3.2.2.2.2.1, ()) h54) (
j57 (.undef, v53, v14, s3.1, s3.2.1, s3.2.2.1, s3.2.2.2.1, s3.2.2.2.2.1, ()) h54)))) fun j6 =>
pCall c (.fn 201 [] []) [a0] h2 fun v82 h83 =>
joinC (α := AV × AV × AV × AV × AV × AV × AV × AV × Unit → AH → R) (fun s84 h85 =>
pPick s84.2.1 s84.1 (.bool false) fun v87 =>
pCond v87 (
pLoad1 h85 s84.2.2.2.2.2.2.1 fun v88 =>
pCall c (.fn 212 [] []) [s84.2.2.2.2.2.2.2.1, v88] h85 fun v89 h90 =>
j6 (v89, s84.2.2.2.1, s84.2.2.2.2.1, s84.2.2.2.2.2.1, s84.2.2.2.2.2.2.2.1, ()) h90 []) (
j6 (s84.2.2.1, s84.2.2.2.1, s84.2.2.2.2.1, s84.2.2.2.2.2.1, s84.2.2.2.2.2.2.2.1, ()) h85 [])) fun j86 =>
pWant v82 true (
pNil v1 fun v91 =>
pFieldA v91 1 fun v92 =>
pLoad1 h83 v92 fun v93 =>
pInt .eql v93 (.int .i64 (.ofNat 0)) fun v94 =>
j86 (v94, v82, v1, a4, a3, a2, a1, a0, ()) h83) (
j86 (.undef, v82, v1, a4, a3, a2, a1, a0, ()) h83)
theorem S210_eq (c : CV) (a0 a1 a2 a3 a4 : AV) (h : AH) : enterK Tryz.prog NN P210 c 210 [a0, a1, a2, a3, a4] h = S210 c a0 a1 a2 a3 a4 h := by kernel_rfl
def W210 (c : CV) (l : List AV) (h : AH) : R := match l with | [a0, a1, a2, a3, a4] => S210 c a0 a1 a2 a3 a4 h | _ => none
theorem W210_ok : WOk Tryz.prog 210 W210 := by
  intro c l h r e
  unfold W210 at e
  split at e
  · exact ⟨P210, by rw [S210_eq]; exact e⟩
  · cases e
/- quietus/table.open -/
def P211 : Pl := (.n none .z (.n none .z (.n none .z (.n none .z (.n none .z (.n (some [6, 5, 0]) (.n none (.r [[40, 38, 6, 5, 0], [47, 42, 6, 5, 0]]) .z) .z))))))
def S211 (c : CV) (a0 a1 : AV) (h : AH) : R :=
pCall c (.fn 254 [] []) [a0, a1] h fun v0 h1 =>
pBuild [.nilp, (.int .i64 (.ofNat 0)), (.int .i64 (.ofNat 0)), (.int .i64 (.ofNat 0)), (.int .u64 (.ofNat 0))] [(0, 1, a0), (1, 1, v0)] fun v2 =>
pBox h1 272 v2 fun v3 h4 =>
pNil v3 fun v5 =>
pFieldA v5 1 fun v6 =>
pLoad1 h4 v6 fun v7 =>
pInt .eql v7 (.int .i64 (.ofNat 0)) fun v8 =>
pCond v8 (
some (v3, h4)) (
pNil v3 fun v9 =>
pFieldA v9 1 fun v10 =>
pLoad1 h4 v10 fun v11 =>
pInt .add v11 (.int .i64 (.ofNat 0)) fun v12 =>
pCall c (.fn 207 [] []) [a0, v12] h4 fun v13 h14 =>
pNil v3 fun v15 =>
pFieldA v15 4 fun v16 =>
pStore h14 v16 v13 1 fun h17 =>
pNil v3 fun v18 =>
pFieldA v18 1 fun v19 =>
pLoad1 h17 v19 fun v20 =>
pInt .add v20 (.int .i64 (.ofNat 1)) fun v21 =>
pCall c (.fn 207 [] []) [a0, v21] h17 fun v22 h23 =>
joinC (α := AV × AV × AV × Unit → AH → List Nat → R) (fun s24 h25 d26 =>
pConvI .i64 s24.1 fun v28 =>
pNil s24.2.1 fun v29 =>
pFieldA v29 1 fun v30 =>
pLoad1 h25 v30 fun v31 =>
pInt .add v31 (.int .i64 (.ofNat 2)) fun v32 =>
pCall c (.fn 254 [] []) [s24.2.2.1, v32] h25 fun v33 h34 =>
pNil s24.2.1 fun v35 =>
pFieldA v35 2 fun v36 =>
pStore h34 v36 v28 1 fun h37 =>
pNil s24.2.1 fun v38 =>
pFieldA v38 3 fun v39 =>
pStore h37 v39 v33 1 fun h40 =>
pLeave d26 h40 fun h41 =>
some (s24.2.1, h41)) fun j27 =>
pInt .lss v22 (.int .u64 (.ofNat 2)) fun v42 =>
joinC (α := AV × AV × AV × AV × AV × Unit → AH → R) (fun s43 h44 =>
pPick s43.2.1 (.bool true) s43.1 fun v46 =>
joinC (α := AV × AV × AV × AV × AV × Unit → AH → R) (fun s47 h48 =>
pPick s47.2.1 (.bool true) s47.1 fun v50 =>
pCond v50 (
pCall c (.fn 255 [] []) [s47.2.2.2.2.1, (.int .i64 (.ofNat 2))] h48 fun _ h52 =>
j27 ((.int .u64 (.ofNat 2)), s47.2.2.2.1, s47.2.2.2.2.1, ()) h52 []) (
j27 (s47.2.2.1, s47.2.2.2.1, s47.2.2.2.2.1, ()) h48 [])) fun j49 =>
pWant v46 false (
pInt .sub s43.2.2.1 (.int .u64 (.ofNat 1)) fun v53 =>
pInt .and s43.2.2.1 v53 fun v54 =>
pInt .neq v54 (.int .u64 (.ofNat 0)) fun v55 =>
j49 (v55, v46, s43.2.2.1, s43.2.2.2.1, s43.2.2.2.2.1, ()) h44) (
j49 (.undef, v46, s43.2.2.1, s43.2.2.2.1, s43.2.2.2.2.1, ()) h44)) fun j45 =>
pWant v42 false (
pInt .gtr v22 (.int .u64 (.ofNat 16)) fun v56 =>
j45 (v56, v42, v22, v3, a0, ()) h23) (
j45 (.undef, v42, v22, v3, a0, ()) h23))
theorem S211_eq (c : CV) (a0 a1 : AV) (h : AH) : enterK Tryz.prog NN P211 c 211 [a0, a1] h = S211 c a0 a1 h := by kernel_rfl
def W211 (c : CV) (l : List AV) (h : AH) : R := match l with | [a0, a1] => S211 c a0 a1 h | _ => none
theorem W211_ok : WOk Tryz.prog 211 W211 := by
  intro c l h r e
  unfold W211 at e
  split at e
  · exact ⟨P211, by rw [S211_eq]; exact e⟩
  · cases e
/- quietus/table.made -/
def P212 : Pl := (.n none .z (.n none .z (.n none (.n none .z (.n none (.n (some [14, 5, 1, 0]) .z .z) .z)) .z)))
def S212 (c : CV) (a0 a1 : AV) (h : AH) : R :=
pCall c (.fn 203 [] []) [a0, (.int .i64 (.ofNat 3))] h fun v0 h1 =>
pCall c (.fn 203 [] []) [a0, (.int .i64 (.ofNat 2))] h1 fun v2 h3 =>
pBuild [.nilp, (.int .i64 (.ofNat 0)), (.int .i64 (.ofNat 0)), (.int .i64 (.ofNat 0)), (.int .u64 (.ofNat 0))] [(0, 1, a0), (1, 1, v0), (2, 1, (.int .i64 (.ofNat 2))), (3, 1, v2)] fun v4 =>
pBox h3 272 v4 fun v5 h6 =>
loopC (σ := AV × AV × AV × AV × Unit) NN (fun i10 s7 h8 d9 =>
pInt .lss s7.1 (.int .i64 (.ofNat 2)) fun v11 =>
pCond v11 (
pNil s7.2.1 fun v12 =>
pFieldA v12 3 fun v13 =>
pLoad1 h8 v13 fun v14 =>
pInt .add v14 s7.1 fun v15 =>
pCall c (.fn 205 [] []) [s7.2.2.2.1, v15, (.int .i64 (.ofNat 0))] h8 fun _ h17 =>
pInt .add s7.1 (.int .i64 (.ofNat 1)) fun v18 =>
i10 (v18, s7.2.1, s7.2.2.1, s7.2.2.2.1, ()) h17 d9) (
pNil s7.2.1 fun v19 =>
pFieldA v19 1 fun v20 =>
pLoad1 h8 v20 fun v21 =>
pInt .add v21 (.int .i64 (.ofNat 0)) fun v22 =>
pCall c (.fn 205 [] []) [s7.2.2.2.1, v22, (.int .i64 (.ofNat 0))] h8 fun _ h24 =>
pNil s7.2.1 fun v25 =>
pFieldA v25 1 fun v26 =>
pLoad1 h24 v26 fun v27 =>
pInt .add v27 (.int .i64 (.ofNat 1)) fun v28 =>
pCall c (.fn 205 [] []) [s7.2.2.2.1, v28, (.int .i64 (.ofNat 2))] h24 fun _ h30 =>
pNil s7.2.1 fun v31 =>
pFieldA v31 1 fun v32 =>
pLoad1 h30 v32 fun v33 =>
pInt .add v33 (.int .i64 (.ofNat 2)) fun v34 =>
pNil s7.2.1 fun v35 =>
pFieldA v35 3 fun v36 =>
pLoad1 h30 v36 fun v37 =>
pCall c (.fn 205 [] []) [s7.2.2.2.1, v34, v37] h30 fun _ h39 =>
pNil s7.2.1 fun v40 =>
pFieldA v40 1 fun v41 =>
pLoad1 h39 v41 fun v42 =>
pCall c (.fn 205 [] []) [s7.2.2.2.1, s7.2.2.1, v42] h39 fun _ h44 =>
pLeave d9 h44 fun h45 =>
some (s7.2.1, h45))) ((.int .i64 (.ofNat 0)), v5, a1, a0, ()) h6 []
theorem S212_eq (c : CV) (a0 a1 : AV) (h : AH) : enterK Tryz.prog NN P212 c 212 [a0, a1] h = S212 c a0 a1 h := by kernel_rfl
def W212 (c : CV) (l : List AV) (h : AH) : R := match l with | [a0, a1] => S212 c a0 a1 h | _ => none
theorem W212_ok : WOk Tryz.prog 212 W212 := by
  intro c l h r e
  unfold W212 at e
  split at e
  · exact ⟨P212, by rw [S212_eq]; exact e⟩
  · cases e
/- (*quietus/table.table).seek -/
def P213 : Pl := (.n none .z (.n none (.r [[4, 1, 0]]) (.n none (.n none (.n (some [4, 1, 0]) (.n none .z (.n none (.n none .z (.n none (.n none (.r [[39, 30, 5, 4, 1, 0]]) .z) .z)) .z)) .z) .z) .z)))
def S213 (c : CV) (a0 a1 : AV) (h : AH) : R :=
joinC (α := AV × AV × AV × Unit → AH → R) (fun s0 h1 =>
loopC (σ := AV × AV × AV × Unit) NN (fun i6 s3 h4 d5 =>
pNil s3.2.2.1 fun v7 =>
pFieldA v7 0 fun v8 =>
pLoad1 h4 v8 fun v9 =>
pCall c (.fn 253 [] []) [v9] h4 fun v10 h11 =>
pCond v10 (
pNil s3.2.2.1 fun v12 =>
pFieldA v12 0 fun v13 =>
pLoad1 h11 v13 fun v14 =>
pCall c (.fn 254 [] []) [v14, s3.1] h11 fun v15 h16 =>
pInt .eql v15 (.int .i64 (.ofNat 0)) fun v17 =>
joinC (α := AV × AV × AV × AV × AV × AV × Unit → AH → R) (fun s18 h19 =>
pPick s18.2.1 (.bool true) s18.1 fun v21 =>
pCond v21 (
pLeave d5 h19 fun h22 =>
some ((.tup [s18.2.2.2.1, s18.2.2.1]), h22)) (
pInt .add s18.2.2.1 (.int .i64 (.ofNat 2)) fun v23 =>
i6 (v23, s18.2.2.2.2.1, s18.2.2.2.2.2.1, ()) h19 d5)) fun j20 =>
pWant v17 false (
pNil s3.2.2.1 fun v24 =>
pFieldA v24 0 fun v25 =>
pLoad1 h16 v25 fun v26 =>
pInt .add v15 (.int .i64 (.ofNat 0)) fun v27 =>
pCall c (.fn 207 [] []) [v26, v27] h16 fun v28 h29 =>
pInt .eql v28 s3.2.1 fun v30 =>
j20 (v30, v17, v15, s3.1, s3.2.1, s3.2.2.1, ()) h29) (
j20 (.undef, v17, v15, s3.1, s3.2.1, s3.2.2.1, ()) h16)) (
pLeave d5 h11 fun h31 =>
some ((.tup [s3.1, (.int .i64 (.ofNat 0))]), h31))) (s0.1, s0.2.1, s0.2.2.1, ()) h1 []) fun j2 =>
pNil a0 fun v32 =>
pFieldA v32 3 fun v33 =>
pLoad1 h v33 fun v34 =>
pNil a0 fun v35 =>
pFieldA v35 2 fun v36 =>
pLoad1 h v36 fun v37 =>
pCall c (.fn 256 [] []) [a1, v37] h fun v38 h39 =>
pInt .add v34 v38 fun v40 =>
pChk v33 none v34 h h39 h.nx <|
j2 (v40, a1, a0, ()) h39
theorem S213_eq (c : CV) (a0 a1 : AV) (h : AH) : enterK Tryz.prog NN P213 c 213 [a0, a1] h = S213 c a0 a1 h := by kernel_rfl
def W213 (c : CV) (l : List AV) (h : AH) : R := match l with | [a0, a1] => S213 c a0 a1 h | _ => none
theorem W213_ok : WOk Tryz.prog 213 W213 := by
  intro c l h r e
  unfold W213 at e
  split at e
  · exact ⟨P213, by rw [S213_eq]; exact e⟩
  · cases e
/- (*quietus/table.table).grow -/
def P214 : Pl := (.n none .z (.n none .z (.n none .z (.n none .z (.n none .z (.n none (.n none .z (.n none (.n (some [25, 24, 23, 4, 2, 1]) .z .z) .z)) (.n none .z (.n none (.r [[4, 2, 1]]) .z))))))))
def S214 (c : CV) (a0 : AV) (h : AH) : R :=
pBox h 269 a0 fun v0 h1 =>
pLoad1 h1 v0 fun v2 =>
pNil v2 fun v3 =>
pFieldA v3 2 fun v4 =>
pLoad1 h1 v4 fun v5 =>
pInt .mul (.int .i64 (.ofNat 2)) v5 fun v6 =>
pBox h1 3 (.int .i64 (.ofNat 0)) fun v7 h8 =>
pStore h8 v7 v6 1 fun h9 =>
pLoad1 h9 v7 fun v10 =>
pMake h9 3 [(.int .i64 (.ofNat 0))] v10 v10 fun v11 h12 =>
pBox h12 70 .nils fun v13 h14 =>
pStore h14 v13 v11 1 fun h15 =>
pLoad1 h15 v0 fun v16 =>
pNil v16 fun v17 =>
pFieldA v17 0 fun v18 =>
pLoad1 h15 v18 fun v19 =>
pLoad1 h15 v7 fun v20 =>
pCall c (.fn 203 [] []) [v19, v20] h15 fun v21 h22 =>
pLoad1 h22 v0 fun v23 =>
pCall c (.fn 257 [] []) [v23, (.fn 258 [] [v0, v7, v13])] h22 fun _ h25 =>
pLoad1 h25 v13 fun v26 =>
pLenS v26 fun v27 =>
loopC (σ := AV × AV × AV × AV × AV × AV × Unit) NN (fun i31 s28 h29 d30 =>
pInt .lss s28.1 s28.2.1 fun v32 =>
pCond v32 (
pIdxS s28.2.2.1 s28.1 1 fun v33 =>
pLoad1 h29 v33 fun v34 =>
pLoad1 h29 s28.2.2.2.2.2.1 fun v35 =>
pNil v35 fun v36 =>
pFieldA v36 0 fun v37 =>
pLoad1 h29 v37 fun v38 =>
pInt .add s28.2.2.2.1 s28.1 fun v39 =>
pCall c (.fn 205 [] []) [v38, v39, v34] h29 fun _ h41 =>
pInt .add s28.1 (.int .i64 (.ofNat 1)) fun v42 =>
i31 (v42, s28.2.1, s28.2.2.1, s28.2.2.2.1, s28.2.2.2.2.1, s28.2.2.2.2.2.1, ()) h41 d30) (
pLoad1 h29 s28.2.2.2.2.2.1 fun v43 =>
pNil v43 fun v44 =>
pFieldA v44 0 fun v45 =>
pLoad1 h29 v45 fun v46 =>
pLoad1 h29 s28.2.2.2.2.2.1 fun v47 =>
pNil v47 fun v48 =>
pFieldA v48 3 fun v49 =>
pLoad1 h29 v49 fun v50 =>
pCall c (.fn 208 [] []) [v46, v50] h29 fun _ h52 =>
joinC (α := AV × AV × AV × Unit → AH → R) (fun s53 h54 =>
pLoad1 h54 s53.2.2.1 fun v56 =>
pNil v56 fun v57 =>
pFieldA v57 0 fun v58 =>
pLoad1 h54 v58 fun v59 =>
pLoad1 h54 s53.2.2.1 fun v60 =>
pNil v60 fun v61 =>
pFieldA v61 1 fun v62 =>
pLoad1 h54 v62 fun v63 =>
pInt .add v63 (.int .i64 (.ofNat 1)) fun v64 =>
pLoad1 h54 s53.2.1 fun v65 =>
pCall c (.fn 205 [] []) [v59, v64, v65] h54 fun _ h67 =>
pLoad1 h67 s53.2.2.1 fun v68 =>
pNil v68 fun v69 =>
pFieldA v69 0 fun v70 =>
pLoad1 h67 v70 fun v71 =>
pLoad1 h67 s53.2.2.1 fun v72 =>
pNil v72 fun v73 =>
pFieldA v73 1 fun v74 =>
pLoad1 h67 v74 fun v75 =>
pInt .add v75 (.int .i64 (.ofNat 2)) fun v76 =>
pCall c (.fn 205 [] []) [v71, v76, s53.1] h67 fun _ h78 =>
pLeave d30 h78 fun h79 =>
some ((.tup []), h79)) fun j55 =>
pLoad1 h52 s28.2.2.2.2.2.1 fun v80 =>
pLoad1 h52 s28.2.2.2.2.2.1 fun v81 =>
pLoad1 h52 s28.2.2.2.2.1 fun v82 =>
pNil v80 fun v83 =>
pFieldA v83 2 fun v84 =>
pStore h52 v84 v82 1 fun h85 =>
pNil v81 fun v86 =>
pFieldA v86 3 fun v87 =>
pStore h85 v87 s28.2.2.2.1 1 fun h88 =>
pChk s28.2.2.2.2.2.1 none v81 h52 h85 h52.nx <|
j55 (s28.2.2.2.1, s28.2.2.2.2.1, s28.2.2.2.2.2.1, ()) h88)) ((.int .i64 (.ofNat 0)), v27, v26, v21, v7, v0, ()) h25 []
theorem S214_eq (c : CV) (a0 : AV) (h : AH) : enterK Tryz.prog NN P214 c 214 [a0] h = S214 c a0 h := by kernel_rfl
def W214 (c : CV) (l : List AV) (h : AH) : R := match l with | [a0] => S214 c a0 h | _ => none
theorem W214_ok : WOk Tryz.prog 214 W214 := by
  intro c l h r e
  unfold W214 at e
  split at e
  · exact ⟨P214, by rw [S214_eq]; exact e⟩
  · cases e
/- (*quietus/interp.Interp).number$1 -/
def P215 : Pl := (.n none .z (.n none .z (.n none (.n none (.r [[20, 13, 4, 3, 1, 0], [25, 22, 4, 3, 0], [31, 25, 22, 4, 3, 0], [32, 22, 4, 3, 0]]) .z) .z)))
def S215 (c : CV) (a0 a1 a2 a3 a4 : AV) (h : AH) : R :=
pInt .neq a2 (.int .i64 (.ofNat 0)) fun v0 =>
pCond v0 (
some (a2, h)) (
joinC (α := AV × AV × AV × AV × AV × AV × Unit → AH → R) (fun s1 h2 =>
pPick s1.2.1 s1.1 (.bool false) fun v4 =>
joinC (α := AV × AV × AV × AV × AV × Unit → AH → R) (fun s5 h6 =>
joinC (α := AV × AV × AV × AV × AV × AV × Unit → AH → R) (fun s8 h9 =>
joinC (α := AV × AV × AV × AV × AV × Unit → AH → R) (fun s11 h12 =>
pPick s11.2.1 (.bool true) s11.1 fun v14 =>
pCond v14 (
some ((.int .i64 (.ofNat 5)), h12)) (
pLoad1 h12 s11.2.2.2.1 fun v15 =>
pFieldA s11.2.2.1 3 fun v16 =>
pLoad1 h12 v16 fun v17 =>
pNil v15 fun v18 =>
pFieldA v18 6 fun v19 =>
pIdxP v19 v17 8 1 fun v20 =>
pStore h12 v20 s11.2.2.2.2.1 1 fun h21 =>
some ((.int .i64 (.ofNat 0)), h21))) fun j13 =>
pWant s8.2.2.1 false (
pPick s8.2.1 s8.1 (.bool false) fun v22 =>
j13 (v22, s8.2.2.1, s8.2.2.2.1, s8.2.2.2.2.1, s8.2.2.2.2.2.1, ()) h9) (
j13 (.undef, s8.2.2.1, s8.2.2.2.1, s8.2.2.2.2.1, s8.2.2.2.2.2.1, ()) h9)) fun j10 =>
pWant s5.1 true (
pLoad1 h6 s5.2.2.2.1 fun v23 =>
pNil v23 fun v24 =>
pFieldA v24 14 fun v25 =>
pLoad1 h6 v25 fun v26 =>
pCall c (.fn 216 [] []) [v26] h6 fun v27 h28 =>
pUn .not v27 fun v29 =>
j10 (v29, s5.1, s5.2.1, s5.2.2.1, s5.2.2.2.1, s5.2.2.2.2.1, ()) h28) (
j10 (.undef, s5.1, s5.2.1, s5.2.2.1, s5.2.2.2.1, s5.2.2.2.2.1, ()) h6)) fun j7 =>
pWant v4 false (
pUn .not s1.2.2.2.2.1 fun v30 =>
j7 (v30, v4, s1.2.2.1, s1.2.2.2.1, s1.2.2.2.2.2.1, ()) h2) (
j7 (.undef, v4, s1.2.2.1, s1.2.2.2.1, s1.2.2.2.2.2.1, ()) h2)) fun j3 =>
pWant a1 true (
pLoad1 h a3 fun v31 =>
pNil v31 fun v32 =>
pFieldA v32 14 fun v33 =>
pLoad1 h v33 fun v34 =>
pCall c (.fn 129 [] []) [v34, a0] h fun v35 h36 =>
pUn .not v35 fun v37 =>
j3 (v37, a1, a4, a3, a1, a0, ()) h36) (
j3 (.undef, a1, a4, a3, a1, a0, ()) h))
theorem S215_eq (c : CV) (a0 a1 a2 a3 a4 : AV) (h : AH) : enterK Tryz.prog NN P215 c 215 [a0, a1, a2, a3, a4] h = S215 c a0 a1 a2 a3 a4 h := by kernel_rfl
def W215 (c : CV) (l : List AV) (h : AH) : R := match l with | [a0, a1, a2, a3, a4] => S215 c a0 a1 a2 a3 a4 h | _ => none
theorem W215_ok : WOk Tryz.prog 215 W215 := by
  intro c l h r e
  unfold W215 at e
  split at e
  · exact ⟨P215, by rw [S215_eq]; exact e⟩
  · cases e
/- (*quietus/slate.Slate).AddNone -/
def P216 : Pl := .z
def S216 (c : CV) (a0 : AV) (h : AH) : R :=
pBuild [] [] fun v0 =>
pCall c (.fn 152 [] []) [a0, (.iface 296 v0)] h fun v1 h2 =>
some (v1, h2)
theorem S216_eq (c : CV) (a0 : AV) (h : AH) : enterK Tryz.prog NN P216 c 216 [a0] h = S216 c a0 h := by kernel_rfl
def W216 (c : CV) (l : List AV) (h : AH) : R := match l with | [a0] => S216 c a0 h | _ => none
theorem W216_ok : WOk Tryz.prog 216 W216 := by
  intro c l h r e
  unfold W216 at e
  split at e
  · exact ⟨P216, by rw [S216_eq]; exact e⟩
  · cases e
/- quietus/table.Get$1 -/
def P217 : Pl := (.n none .z (.n none (.n none (.r [[20, 15, 6, 4, 3, 2, 0]]) .z) .z))
def S217 (c : CV) (a0 a1 a2 a3 a4 : AV) (h : AH) : R :=
pLoad1 h a1 fun v0 =>
pCall c (.fn 211 [] []) [a0, v0] h fun v1 h2 =>
pCall c (.fn 201 [] []) [a0] h2 fun v3 h4 =>
pUn .not v3 fun v5 =>
joinC (α := AV × AV × AV × AV × AV × AV × AV × Unit → AH → R) (fun s6 h7 =>
pPick s6.2.1 (.bool true) s6.1 fun v9 =>
pCond v9 (
some ((.tup []), h7)) (
pLoad1 h7 s6.2.2.2.2.2.1 fun v10 =>
pCall c (.fn 213 [] []) [s6.2.2.1, v10] h7 fun v11 h12 =>
pExtract v11 0 fun _ =>
pExtract v11 1 fun v14 =>
pInt .neq v14 (.int .i64 (.ofNat 0)) fun v15 =>
pCond v15 (
pInt .add v14 (.int .i64 (.ofNat 1)) fun v16 =>
pCall c (.fn 207 [] []) [s6.2.2.2.2.2.2.1, v16] h12 fun v17 h18 =>
pStore h18 s6.2.2.2.2.1 v17 1 fun h19 =>
pStore h19 s6.2.2.2.1 (.bool true) 1 fun h20 =>
some ((.tup []), h20)) (
some ((.tup []), h12)))) fun j8 =>
pWant v5 false (
pNil v1 fun v21 =>
pFieldA v21 1 fun v22 =>
pLoad1 h4 v22 fun v23 =>
pInt .eql v23 (.int .i64 (.ofNat 0)) fun v24 =>
j8 (v24, v5, v1, a4, a3, a2, a0, ()) h4) (
j8 (.undef, v5, v1, a4, a3, a2, a0, ()) h4)
theorem S217_eq (c : CV) (a0 a1 a2 a3 a4 : AV) (h : AH) : enterK Tryz.prog NN P217 c 217 [a0, a1, a2, a3, a4] h = S217 c a0 a1 a2 a3 a4 h := by kernel_rfl
def W217 (c : CV) (l : List AV) (h : AH) : R := match l with | [a0, a1, a2, a3, a4] => S217 c a0 a1 a2 a3 a4 h | _ => none
theorem W217_ok : WOk Tryz.prog 217 W217 := by
  intro c l h r e
  unfold W217 at e
  split at e
  · exact ⟨P217, by rw [S217_eq]; exact e⟩
  · cases e
/- quietus/table.Del$1 -/
def P218 : Pl := (.n none .z (.n none (.n none (.r [[19, 14, 5, 3, 2, 0]]) .z) .z))
def S218 (c : CV) (a0 a1 a2 a3 : AV) (h : AH) : R :=
pLoad1 h a1 fun v0 =>
pCall c (.fn 211 [] []) [a0, v0] h fun v1 h2 =>
pCall c (.fn 201 [] []) [a0] h2 fun v3 h4 =>
pUn .not v3 fun v5 =>
joinC (α := AV × AV × AV × AV × AV × AV × Unit → AH → R) (fun s6 h7 =>
pPick s6.2.1 (.bool true) s6.1 fun v9 =>
pCond v9 (
some ((.tup []), h7)) (
pLoad1 h7 s6.2.2.2.2.1 fun v10 =>
pCall c (.fn 213 [] []) [s6.2.2.1, v10] h7 fun v11 h12 =>
pExtract v11 0 fun v13 =>
pExtract v11 1 fun v14 =>
pInt .neq v14 (.int .i64 (.ofNat 0)) fun v15 =>
pCond v15 (
pInt .add v14 (.int .i64 (.ofNat 2)) fun v16 =>
pCall c (.fn 207 [] []) [s6.2.2.2.2.2.1, v16] h12 fun v17 h18 =>
pCall c (.fn 204 [] []) [s6.2.2.2.2.2.1, v13, v17] h18 fun _ h20 =>
pNil s6.2.2.1 fun v21 =>
pFieldA v21 1 fun v22 =>
pLoad1 h20 v22 fun v23 =>
pInt .add v23 (.int .i64 (.ofNat 0)) fun v24 =>
pNil s6.2.2.1 fun v25 =>
pFieldA v25 4 fun v26 =>
pLoad1 h20 v26 fun v27 =>
pInt .sub v27 (.int .u64 (.ofNat 1)) fun v28 =>
pCall c (.fn 204 [] []) [s6.2.2.2.2.2.1, v24, v28] h20 fun _ h30 =>
pCall c (.fn 208 [] []) [s6.2.2.2.2.2.1, v14] h30 fun _ h32 =>
pStore h32 s6.2.2.2.1 (.bool true) 1 fun h33 =>
some ((.tup []), h33)) (
some ((.tup []), h12)))) fun j8 =>
pWant v5 false (
pNil v1 fun v34 =>
pFieldA v34 1 fun v35 =>
pLoad1 h4 v35 fun v36 =>
pInt .eql v36 (.int .i64 (.ofNat 0)) fun v37 =>
j8 (v37, v5, v1, a3, a2, a0, ()) h4) (
j8 (.undef, v5, v1, a3, a2, a0, ()) h4)
theorem S218_eq (c : CV) (a0 a1 a2 a3 : AV) (h : AH) : enterK Tryz.prog NN P218 c 218 [a0, a1, a2, a3] h = S218 c a0 a1 a2 a3 h := by kernel_rfl
def W218 (c : CV) (l : List AV) (h : AH) : R := match l with | [a0, a1, a2, a3] => S218 c a0 a1 a2 a3 h | _ => none
theorem W218_ok : WOk Tryz.prog 218 W218 := by
  intro c l h r e
  unfold W218 at e
  split at e
  · exact ⟨P218, by rw [S218_eq]; exact e⟩
  · cases e
/- quietus/queue.Push -/
def P219 : Pl := .z
def S219 (c : CV) (a0 a1 a2 : AV) (h : AH) : R :=
pBox h 3 a1 fun v0 h1 =>
pBox h1 24 a2 fun v2 h3 =>
pLoad1 h3 v0 fun v4 =>
pCall c (.fn 198 [] []) [a0, v4, (.fn 259 [] [v0, v2])] h3 fun v5 h6 =>
some (v5, h6)
theorem S219_eq (c : CV) (a0 a1 a2 : AV) (h : AH) : enterK Tryz.prog NN P219 c 219 [a0, a1, a2] h = S219 c a0 a1 a2 h := by kernel_rfl
def W219 (c : CV) (l : List AV) (h : AH) : R := match l with | [a0, a1, a2] => S219 c a0 a1 a2 h | _ => none
theorem W219_ok : WOk Tryz.prog 219 W219 := by
  intro c l h r e
  unfold W219 at e
  split at e
  · exact ⟨P219, by rw [S219_eq]; exact e⟩
  · cases e
/- quietus/queue.Take -/
def P220 : Pl := .z
def S220 (c : CV) (a0 a1 : AV) (h : AH) : R :=
pBox h 3 a1 fun v0 h1 =>
pBox h1 24 (.int .u64 (.ofNat 0)) fun v2 h3 =>
pBox h3 4 (.bool false) fun v4 h5 =>
pStore h5 v2 (.int .u64 (.ofNat 0)) 1 fun h6 =>
pStore h6 v4 (.bool false) 1 fun h7 =>
pLoad1 h7 v0 fun v8 =>
pCall c (.fn 198 [] []) [a0, v8, (.fn 260 [] [v0, v2, v4])] h7 fun v9 h10 =>
pInt .neq v9 (.int .i64 (.ofNat 0)) fun v11 =>
pCond v11 (
some ((.tup [(.int .u64 (.ofNat 0)), (.bool false), v9]), h10)) (
pLoad1 h10 v2 fun v12 =>
pLoad1 h10 v4 fun v13 =>
some ((.tup [v12, v13, (.int .i64 (.ofNat 0))]), h10))
theorem S220_eq (c : CV) (a0 a1 : AV) (h : AH) : enterK Tryz.prog NN P220 c 220 [a0, a1] h = S220 c a0 a1 h := by kernel_rfl
def W220 (c : CV) (l : List AV) (h : AH) : R := match l with | [a0, a1] => S220 c a0 a1 h | _ => none
theorem W220_ok : WOk Tryz.prog 220 W220 := by
  intro c l h r e
  unfold W220 at e
  split at e
  · exact ⟨P220, by rw [S220_eq]; exact e⟩
  · cases e
/- quietus/tree.Put$1 -/
def P221 : Pl := .z
def S221 (c : CV) (a0 a1 a2 a3 a4 : AV) (h : AH) : R :=
pLoad1 h a1 fun v0 =>
pBuild [.nilp, (.int .i64 (.ofNat 0)), .nils] [(0, 1, a0), (1, 1, v0)] fun v1 =>
pBox h 279 v1 fun v2 h3 =>
pLoad1 h3 a2 fun v4 =>
pCall c (.fn 222 [] []) [v2, v4] h3 fun v5 h6 =>
pCall c (.fn 201 [] []) [a0] h6 fun v7 h8 =>
pUn .not v7 fun v9 =>
pCond v9 (
some ((.tup []), h8)) (
pInt .neq v5 (.int .i64 (.ofNat 0)) fun v10 =>
pCond v10 (
pInt .add v5 (.int .i64 (.ofNat 1)) fun v11 =>
pLoad1 h8 a3 fun v12 =>
pCall c (.fn 204 [] []) [a0, v11, v12] h8 fun _ h14 =>
some ((.tup []), h14)) (
pCall c (.fn 203 [] []) [a0, (.int .i64 (.ofNat 4))] h8 fun v15 h16 =>
pInt .add v15 (.int .i64 (.ofNat 0)) fun v17 =>
pLoad1 h16 a2 fun v18 =>
pCall c (.fn 204 [] []) [a0, v17, v18] h16 fun _ h20 =>
pInt .add v15 (.int .i64 (.ofNat 1)) fun v21 =>
pLoad1 h20 a3 fun v22 =>
pCall c (.fn 204 [] []) [a0, v21, v22] h20 fun _ h24 =>
pInt .add v15 (.int .i64 (.ofNat 2)) fun v25 =>
pCall c (.fn 204 [] []) [a0, v25, (.int .u64 (.ofNat 1))] h24 fun _ h27 =>
pInt .add v15 (.int .i64 (.ofNat 3)) fun v28 =>
pCall c (.fn 205 [] []) [a0, v28, (.int .i64 (.ofNat 0))] h27 fun _ h30 =>
pNil v2 fun v31 =>
pFieldA v31 2 fun v32 =>
pLoad1 h30 v32 fun v33 =>
pLenS v33 fun v34 =>
pCall c (.fn 223 [] []) [v2, v34, v15] h30 fun _ h36 =>
pCall c (.fn 224 [] []) [v2] h36 fun _ h38 =>
pStore h38 a4 (.bool true) 1 fun h39 =>
some ((.tup []), h39)))
theorem S221_eq (c : CV) (a0 a1 a2 a3 a4 : AV) (h : AH) : enterK Tryz.prog NN P221 c 221 [a0, a1, a2, a3, a4] h = S221 c a0 a1 a2 a3 a4 h := by kernel_rfl
def W221 (c : CV) (l : List AV) (h : AH) : R := match l with | [a0, a1, a2, a3, a4] => S221 c a0 a1 a2 a3 a4 h | _ => none
theorem W221_ok : WOk Tryz.prog 221 W221 := by
  intro c l h r e
  unfold W221 at e
  split at e
  · exact ⟨P221, by rw [S221_eq]; exact e⟩
  · cases e
/- (*quietus/tree.tree).seek -/
def P222 : Pl := (.n none .z (.n none .z (.n none (.n none .z (.n none (.n (some [5, 1, 0]) (.n none (.n none (.r [[20, 15, 5, 1, 0]]) .z) (.n none (.n none .z (.n none .z (.n none .z (.n (some [7, 5, 1, 0]) .z .z)))) .z)) .z) .z)) .z)))
def S222 (c : CV) (a0 a1 : AV) (h : AH) : R :=
pNil a0 fun v0 =>
pFieldA v0 2 fun v1 =>
pStore h v1 .nils 1 fun h2 =>
pCall c (.fn 230 [] []) [a0] h2 fun v3 h4 =>
loopC (σ := AV × AV × AV × Unit) NN (fun i8 s5 h6 d7 =>
pInt .neq s5.1 (.int .i64 (.ofNat 0)) fun v9 =>
joinC (α := AV × AV × AV × AV × AV × Unit → AH → R) (fun s10 h11 =>
pPick s10.2.1 s10.1 (.bool false) fun v13 =>
pCond v13 (
pNil s10.2.2.2.2.1 fun v14 =>
pFieldA v14 0 fun v15 =>
pLoad1 h11 v15 fun v16 =>
pInt .add s10.2.2.1 (.int .i64 (.ofNat 0)) fun v17 =>
pCall c (.fn 207 [] []) [v16, v17] h11 fun v18 h19 =>
pInt .eql v18 s10.2.2.2.1 fun v20 =>
pCond v20 (
pLeave d7 h19 fun h21 =>
some (s10.2.2.1, h21)) (
joinC (α := AV × AV × AV × AV × Unit → AH → List Nat → R) (fun s22 h23 d24 =>
pNil s22.2.2.2.1 fun v26 =>
pFieldA v26 2 fun v27 =>
pLoad1 h23 v27 fun v28 =>
pBuild [(.int .i64 (.ofNat 0)), (.int .i64 (.ofNat 0))] [(0, 1, s22.2.1), (1, 1, s22.1)] fun v29 =>
pBuildS h23 298 [(.int .i64 (.ofNat 0)), (.int .i64 (.ofNat 0))] 1 [(0, 2, v29)] fun v30 h31 =>
pAppend h31 298 2 v28 v30 fun v32 h33 =>
pNil s22.2.2.2.1 fun v34 =>
pFieldA v34 2 fun v35 =>
pStore h33 v35 v32 1 fun h36 =>
pCall c (.fn 261 [] []) [s22.2.2.2.1, s22.2.1, s22.1] h36 fun v37 h38 =>
i8 (v37, s22.2.2.1, s22.2.2.2.1, ()) h38 d24) fun j25 =>
pInt .gtr s10.2.2.2.1 v18 fun v39 =>
pCond v39 (
j25 ((.int .i64 (.ofNat 1)), s10.2.2.1, s10.2.2.2.1, s10.2.2.2.2.1, ()) h19 d7) (
j25 ((.int .i64 (.ofNat 0)), s10.2.2.1, s10.2.2.2.1, s10.2.2.2.2.1, ()) h19 d7))) (
pLeave d7 h11 fun h40 =>
some ((.int .i64 (.ofNat 0)), h40))) fun j12 =>
pWant v9 true (
pNil s5.2.2.1 fun v41 =>
pFieldA v41 0 fun v42 =>
pLoad1 h6 v42 fun v43 =>
pCall c (.fn 253 [] []) [v43] h6 fun v44 h45 =>
j12 (v44, v9, s5.1, s5.2.1, s5.2.2.1, ()) h45) (
j12 (.undef, v9, s5.1, s5.2.1, s5.2.2.1, ()) h6)) (v3, a1, a0, ()) h4 []
theorem S222_eq (c : CV) (a0 a1 : AV) (h : AH) : enterK Tryz.prog NN P222 c 222 [a0, a1] h = S222 c a0 a1 h := by kernel_rfl
def W222 (c : CV) (l : List AV) (h : AH) : R := match l with | [a0, a1] => S222 c a0 a1 h | _ => none
theorem W222_ok : WOk Tryz.prog 222 W222 := by
  intro c l h r e
  unfold W222 at e
  split at e
  · exact ⟨P222, by rw [S222_eq]; exact e⟩
  · cases e
/- (*quietus/tree.tree).link -/
def P223 : Pl := .z
def S223 (c : CV) (a0 a1 a2 : AV) (h : AH) : R :=
pInt .eql a1 (.int .i64 (.ofNat 0)) fun v0 =>
pCond v0 (
pNil a0 fun v1 =>
pFieldA v1 0 fun v2 =>
pLoad1 h v2 fun v3 =>
pNil a0 fun v4 =>
pFieldA v4 1 fun v5 =>
pLoad1 h v5 fun v6 =>
pCall c (.fn 205 [] []) [v3, v6, a2] h fun _ h8 =>
some ((.tup []), h8)) (
pNil a0 fun v9 =>
pFieldA v9 2 fun v10 =>
pLoad1 h v10 fun v11 =>
pInt .sub a1 (.int .i64 (.ofNat 1)) fun v12 =>
pIdxS v11 v12 2 fun v13 =>
pFieldA v13 0 fun v14 =>
pLoad1 h v14 fun v15 =>
pNil a0 fun v16 =>
pFieldA v16 2 fun v17 =>
pLoad1 h v17 fun v18 =>
pInt .sub a1 (.int .i64 (.ofNat 1)) fun v19 =>
pIdxS v18 v19 2 fun v20 =>
pFieldA v20 1 fun v21 =>
pLoad1 h v21 fun v22 =>
pCall c (.fn 262 [] []) [a0, v15, v22, a2] h fun _ h24 =>
some ((.tup []), h24))
theorem S223_eq (c : CV) (a0 a1 a2 : AV) (h : AH) : enterK Tryz.prog NN P223 c 223 [a0, a1, a2] h = S223 c a0 a1 a2 h := by kernel_rfl
def W223 (c : CV) (l : List AV) (h : AH) : R := match l with | [a0, a1, a2] => S223 c a0 a1 a2 h | _ => none
theorem W223_ok : WOk Tryz.prog 223 W223 := by
  intro c l h r e
  unfold W223 at e
  split at e
  · exact ⟨P223, by rw [S223_eq]; exact e⟩
  · cases e
/- (*quietus/tree.tree).raised -/
def P224 : Pl := (.n none (.n none (.n (some [0]) (.n none (.n none (.r [[17, 12, 0]]) .z) (.n none (.n none .z (.n none (.r [[4, 3, 2, 0]]) .z)) .z)) .z) .z) (.n none (.r [[92, 87, 0]]) .z))
def S224 (c : CV) (a0 : AV) (h : AH) : R :=
loopC (σ := AV × Unit) NN (fun i3 s0 h1 d2 =>
pNil s0.1 fun v4 =>
pFieldA v4 2 fun v5 =>
pLoad1 h1 v5 fun v6 =>
pLenS v6 fun v7 =>
pInt .geq v7 (.int .i64 (.ofNat 2)) fun v8 =>
joinC (α := AV × AV × AV × Unit → AH → R) (fun s9 h10 =>
pPick s9.2.1 s9.1 (.bool false) fun v12 =>
pCond v12 (
pNil s9.2.2.1 fun v13 =>
pFieldA v13 2 fun v14 =>
pLoad1 h10 v14 fun v15 =>
pLenS v15 fun v16 =>
joinC (α := AV × AV × AV × AV × Unit → AH → R) (fun s17 h18 =>
pFieldA s17.2.1 0 fun v20 =>
pLoad1 h18 v20 fun v21 =>
pCall c (.fn 263 [] []) [s17.2.2.2.1, v21] h18 fun v22 h23 =>
pUn .not v22 fun v24 =>
pCond v24 (
pLeave d2 h23 fun h25 =>
some ((.tup []), h25)) (
pFieldA s17.1 0 fun v26 =>
pLoad1 h23 v26 fun v27 =>
pFieldA s17.1 1 fun v28 =>
pLoad1 h23 v28 fun v29 =>
pInt .sub (.int .i64 (.ofNat 1)) v29 fun v30 =>
pCall c (.fn 261 [] []) [s17.2.2.2.1, v27, v30] h23 fun v31 h32 =>
pCall c (.fn 263 [] []) [s17.2.2.2.1, v31] h32 fun v33 h34 =>
pUn .not v33 fun v35 =>
pCond v35 (
pLoadN h34 s17.2.1 2 fun v36 =>
pLoadN h34 s17.1 2 fun v37 =>
pCall c (.fn 264 [] []) [s17.2.2.2.1, v36, v37] h34 fun _ h39 =>
pLeave d2 h39 fun h40 =>
some ((.tup []), h40)) (
pFieldA s17.2.1 0 fun v41 =>
pLoad1 h34 v41 fun v42 =>
pCall c (.fn 265 [] []) [s17.2.2.2.1, v42, (.bool false)] h34 fun _ h44 =>
pCall c (.fn 265 [] []) [s17.2.2.2.1, v31, (.bool false)] h44 fun _ h46 =>
pFieldA s17.1 0 fun v47 =>
pLoad1 h46 v47 fun v48 =>
pCall c (.fn 265 [] []) [s17.2.2.2.1, v48, (.bool true)] h46 fun _ h50 =>
pNil s17.2.2.2.1 fun v51 =>
pFieldA v51 2 fun v52 =>
pLoad1 h50 v52 fun v53 =>
pInt .sub s17.2.2.1 (.int .i64 (.ofNat 2)) fun v54 =>
pSlice h50 298 2 v53 none (some v54) fun v55 =>
pNil s17.2.2.2.1 fun v56 =>
pFieldA v56 2 fun v57 =>
pStore h50 v57 v55 1 fun h58 =>
i3 (s17.2.2.2.1, ()) h58 d2))) fun j19 =>
pNil s9.2.2.1 fun v59 =>
pFieldA v59 2 fun v60 =>
pLoad1 h10 v60 fun v61 =>
pInt .sub v16 (.int .i64 (.ofNat 1)) fun v62 =>
pIdxS v61 v62 2 fun v63 =>
pLoadN h10 v63 2 fun v64 =>
pNil s9.2.2.1 fun v65 =>
pFieldA v65 2 fun v66 =>
pLoad1 h10 v66 fun v67 =>
pInt .sub v16 (.int .i64 (.ofNat 2)) fun v68 =>
pIdxS v67 v68 2 fun v69 =>
pLoadN h10 v69 2 fun v70 =>
pBox h10 298 (.agg [(.int .i64 (.ofNat 0)), (.int .i64 (.ofNat 0))]) fun v71 h72 =>
pBox h72 298 (.agg [(.int .i64 (.ofNat 0)), (.int .i64 (.ofNat 0))]) fun v73 h74 =>
pStore h74 v71 v64 2 fun h75 =>
pStore h75 v73 v70 2 fun h76 =>
pChk v69 (some 2) v70 h74 h75 h10.nx <|
pChk v66 none v67 h74 h75 h10.nx <|
j19 (v73, v71, v16, s9.2.2.1, ()) h76) (
pNil s9.2.2.1 fun v77 =>
pFieldA v77 2 fun v78 =>
pLoad1 h10 v78 fun v79 =>
pLenS v79 fun v80 =>
pInt .lss v80 (.int .i64 (.ofNat 2)) fun v81 =>
joinC (α := AV × AV × AV × Unit → AH → R) (fun s82 h83 =>
pPick s82.2.1 s82.1 (.bool false) fun v85 =>
pCond v85 (
pCall c (.fn 230 [] []) [s82.2.2.1] h83 fun v86 h87 =>
pCall c (.fn 265 [] []) [s82.2.2.1, v86, (.bool false)] h87 fun _ h89 =>
pLeave d2 h89 fun h90 =>
some ((.tup []), h90)) (
pLeave d2 h83 fun h91 =>
some ((.tup []), h91))) fun j84 =>
pWant v81 true (
pNil s9.2.2.1 fun v92 =>
pFieldA v92 0 fun v93 =>
pLoad1 h10 v93 fun v94 =>
pCall c (.fn 201 [] []) [v94] h10 fun v95 h96 =>
j84 (v95, v81, s9.2.2.1, ()) h96) (
j84 (.undef, v81, s9.2.2.1, ()) h10))) fun j11 =>
pWant v8 true (
pNil s0.1 fun v97 =>
pFieldA v97 0 fun v98 =>
pLoad1 h1 v98 fun v99 =>
pCall c (.fn 253 [] []) [v99] h1 fun v100 h101 =>
j11 (v100, v8, s0.1, ()) h101) (
j11 (.undef, v8, s0.1, ()) h1)) (a0, ()) h []
theorem S224_eq (c : CV) (a0 : AV) (h : AH) : enterK Tryz.prog NN P224 c 224 [a0] h = S224 c a0 h := by kernel_rfl
def W224 (c : CV) (l : List AV) (h : AH) : R := match l with | [a0] => S224 c a0 h | _ => none
theorem W224_ok : WOk Tryz.prog 224 W224 := by
  intro c l h r e
  unfold W224 at e
  split at e
  · exact ⟨P224, by rw [S224_eq]; exact e⟩
  · cases e
/- quietus/tree.Get$1 -/
def P225 : Pl := .z
def S225 (c : CV) (a0 a1 a2 a3 a4 : AV) (h : AH) : R :=
pLoad1 h a1 fun v0 =>
pBuild [.nilp, (.int .i64 (.ofNat 0)), .nils] [(0, 1, a0), (1, 1, v0)] fun v1 =>
pBox h 279 v1 fun v2 h3 =>
pLoad1 h3 a2 fun v4 =>
pCall c (.fn 222 [] []) [v2, v4] h3 fun v5 h6 =>
pInt .neq v5 (.int .i64 (.ofNat 0)) fun v7 =>
pCond v7 (
pInt .add v5 (.int .i64 (.ofNat 1)) fun v8 =>
pCall c (.fn 207 [] []) [a0, v8] h6 fun v9 h10 =>
pStore h10 a3 v9 1 fun h11 =>
pStore h11 a4 (.bool true) 1 fun h12 =>
some ((.tup []), h12)) (
some ((.tup []), h6))
theorem S225_eq (c : CV) (a0 a1 a2 a3 a4 : AV) (h : AH) : enterK Tryz.prog NN P225 c 225 [a0, a1, a2, a3, a4] h = S225 c a0 a1 a2 a3 a4 h := by kernel_rfl
def W225 (c : CV) (l : List AV) (h : AH) : R := match l with | [a0, a1, a2, a3, a4] => S225 c a0 a1 a2 a3 a4 h | _ => none
theorem W225_ok : WOk Tryz.prog 225 W225 := by
  intro c l h r e
  unfold W225 at e
  split at e
  · exact ⟨P225, by rw [S225_eq]; exact e⟩
  · cases e
/- quietus/tree.Del$1 -/
def P226 : Pl := (.n none .z (.n none .z (.n none (.r [[18, 16, 6, 5, 3]]) .z)))
def S226 (c : CV) (a0 a1 a2 a3 : AV) (h : AH) : R :=
pLoad1 h a1 fun v0 =>
pBuild [.nilp, (.int .i64 (.ofNat 0)), .nils] [(0, 1, a0), (1, 1, v0)] fun v1 =>
pBox h 279 v1 fun v2 h3 =>
pLoad1 h3 a2 fun v4 =>
pCall c (.fn 222 [] []) [v2, v4] h3 fun v5 h6 =>
pInt .neq v5 (.int .i64 (.ofNat 0)) fun v7 =>
joinC (α := AV × AV × AV × AV × AV × Unit → AH → R) (fun s8 h9 =>
pPick s8.2.1 s8.1 (.bool false) fun v11 =>
pCond v11 (
pCall c (.fn 227 [] []) [s8.2.2.2.1, s8.2.2.1] h9 fun _ h13 =>
pStore h13 s8.2.2.2.2.1 (.bool true) 1 fun h14 =>
some ((.tup []), h14)) (
some ((.tup []), h9))) fun j10 =>
pWant v7 true (
pCall c (.fn 201 [] []) [a0] h6 fun v15 h16 =>
j10 (v15, v7, v5, v2, a3, ()) h16) (
j10 (.undef, v7, v5, v2, a3, ()) h6)
theorem S226_eq (c : CV) (a0 a1 a2 a3 : AV) (h : AH) : enterK Tryz.prog NN P226 c 226 [a0, a1, a2, a3] h = S226 c a0 a1 a2 a3 h := by kernel_rfl
def W226 (c : CV) (l : List AV) (h : AH) : R := match l with | [a0, a1, a2, a3] => S226 c a0 a1 a2 a3 h | _ => none
theorem W226_ok : WOk Tryz.prog 226 W226 := by
  intro c l h r e
  unfold W226 at e
  split at e
  · exact ⟨P226, by rw [S226_eq]; exact e⟩
  · cases e
/- (*quietus/tree.tree).cut -/
def P227 : Pl := (.n (some [1, 0]) (.n none (.r [[15, 11, 1, 0]]) (.n none (.n none .z (.n none (.r [[4, 1, 0]]) (.n none (.r [[4, 0]]) .z))) .z)) (.n none .z (.n (some [5, 1, 0]) .z (.n none .z (.n none .z (.n none (.n (some [1, 0]) .z .z) .z))))))
def S227 (c : CV) (a0 a1 : AV) (h : AH) : R :=
joinC (α := AV × AV × Unit → AH → List Nat → R) (fun s0 h1 d2 =>
pCall c (.fn 261 [] []) [s0.2.1, s0.1, (.int .i64 (.ofNat 0))] h1 fun v4 h5 =>
joinC (α := AV × AV × AV × Unit → AH → List Nat → R) (fun s6 h7 d8 =>
pCall c (.fn 263 [] []) [s6.2.2.1, s6.2.1] h7 fun v10 h11 =>
pNil s6.2.2.1 fun v12 =>
pFieldA v12 2 fun v13 =>
pLoad1 h11 v13 fun v14 =>
pLenS v14 fun v15 =>
pCall c (.fn 223 [] []) [s6.2.2.1, v15, s6.1] h11 fun _ h17 =>
joinC (α := AV × AV × Unit → AH → List Nat → R) (fun s18 h19 d20 =>
pNil s18.2.1 fun v22 =>
pFieldA v22 0 fun v23 =>
pLoad1 h19 v23 fun v24 =>
pCall c (.fn 208 [] []) [v24, s18.1] h19 fun _ h26 =>
pLeave d20 h26 fun h27 =>
some ((.tup []), h27)) fun j21 =>
pCond v10 (
j21 (s6.2.1, s6.2.2.1, ()) h17 d8) (
pCall c (.fn 263 [] []) [s6.2.2.1, s6.1] h17 fun v28 h29 =>
pCond v28 (
pCall c (.fn 265 [] []) [s6.2.2.1, s6.1, (.bool false)] h29 fun _ h31 =>
j21 (s6.2.1, s6.2.2.1, ()) h31 d8) (
pCall c (.fn 267 [] []) [s6.2.2.1] h29 fun _ h33 =>
j21 (s6.2.1, s6.2.2.1, ()) h33 d8))) fun j9 =>
pInt .eql v4 (.int .i64 (.ofNat 0)) fun v34 =>
pCond v34 (
pCall c (.fn 261 [] []) [s0.2.1, s0.1, (.int .i64 (.ofNat 1))] h5 fun v35 h36 =>
j9 (v35, s0.1, s0.2.1, ()) h36 d2) (
j9 (v4, s0.1, s0.2.1, ()) h5 d2)) fun j3 =>
pCall c (.fn 261 [] []) [a0, a1, (.int .i64 (.ofNat 0))] h fun v37 h38 =>
pInt .neq v37 (.int .i64 (.ofNat 0)) fun v39 =>
joinC (α := AV × AV × AV × AV × Unit → AH → R) (fun s40 h41 =>
pPick s40.2.1 s40.1 (.bool false) fun v43 =>
pCond v43 (
pCall c (.fn 266 [] []) [s40.2.2.2.1, s40.2.2.1] h41 fun v44 h45 =>
joinC (α := AV × AV × AV × Unit → AH → R) (fun s46 h47 =>
joinC (α := AV × AV × Unit → AH → R) (fun s49 h50 =>
j3 (s49.1, s49.2.1, ()) h50 []) fun j51 =>
pNil s46.2.2.1 fun v52 =>
pFieldA v52 0 fun v53 =>
pLoad1 h47 v53 fun v54 =>
pInt .add s46.2.1 (.int .i64 (.ofNat 1)) fun v55 =>
pNil s46.2.2.1 fun v56 =>
pFieldA v56 0 fun v57 =>
pLoad1 h47 v57 fun v58 =>
pInt .add s46.1 (.int .i64 (.ofNat 1)) fun v59 =>
pCall c (.fn 207 [] []) [v58, v59] h47 fun v60 h61 =>
pCall c (.fn 204 [] []) [v54, v55, v60] h61 fun _ h63 =>
pChk v53 none v54 h47 h61 h47.nx <|
j51 (s46.1, s46.2.2.1, ()) h63) fun j48 =>
pNil s40.2.2.2.1 fun v64 =>
pFieldA v64 0 fun v65 =>
pLoad1 h45 v65 fun v66 =>
pInt .add s40.2.2.1 (.int .i64 (.ofNat 0)) fun v67 =>
pNil s40.2.2.2.1 fun v68 =>
pFieldA v68 0 fun v69 =>
pLoad1 h45 v69 fun v70 =>
pInt .add v44 (.int .i64 (.ofNat 0)) fun v71 =>
pCall c (.fn 207 [] []) [v70, v71] h45 fun v72 h73 =>
pCall c (.fn 204 [] []) [v66, v67, v72] h73 fun _ h75 =>
pChk v65 none v66 h45 h73 h45.nx <|
j48 (v44, s40.2.2.1, s40.2.2.2.1, ()) h75) (
j3 (s40.2.2.1, s40.2.2.2.1, ()) h41 [])) fun j42 =>
pWant v39 true (
pCall c (.fn 261 [] []) [a0, a1, (.int .i64 (.ofNat 1))] h38 fun v76 h77 =>
pInt .neq v76 (.int .i64 (.ofNat 0)) fun v78 =>
j42 (v78, v39, a1, a0, ()) h77) (
j42 (.undef, v39, a1, a0, ()) h38)
theorem S227_eq (c : CV) (a0 a1 : AV) (h : AH) : enterK Tryz.prog NN P227 c 227 [a0, a1] h = S227 c a0 a1 h := by kernel_rfl
def W227 (c : CV) (l : List AV) (h : AH) : R := match l with | [a0, a1] => S227 c a0 a1 h | _ => none
theorem W227_ok : WOk Tryz.prog 227 W227 := by
  intro c l h r e
  unfold W227 at e
  split at e
  · exact ⟨P227, by rw [S227_eq]; exact e⟩
  · cases e
/- quietus/tree.Range$1 -/
def P228 : Pl := (.n none .z (.r [[]]))
def S228 (c : CV) (a0 a1 a2 a3 a4 : AV) (h : AH) : R :=
pLoad1 h a1 fun v0 =>
pBuild [.nilp, (.int .i64 (.ofNat 0)), .nils] [(0, 1, a0), (1, 1, v0)] fun v1 =>
pBox h 279 v1 fun v2 h3 =>
joinC (α := Unit → AH → R) (fun _ h5 =>
some ((.tup []), h5)) fun j6 =>
pCall c (.fn 230 [] []) [v2] h3 fun v7 h8 =>
pLoad1 h8 a2 fun v9 =>
pLoad1 h8 a3 fun v10 =>
pCall c (.fn 229 [] []) [v2, v7, v9, v10, .nils] h8 fun v11 h12 =>
pStore h12 a4 v11 1 fun h13 =>
pChk a3 none v10 h3 h8 h3.nx <|
pChk a2 none v9 h3 h8 h3.nx <|
j6 (()) h13
theorem S228_eq (c : CV) (a0 a1 a2 a3 a4 : AV) (h : AH) : enterK Tryz.prog NN P228 c 228 [a0, a1, a2, a3, a4] h = S228 c a0 a1 a2 a3 a4 h := by kernel_rfl
def W228 (c : CV) (l : List AV) (h : AH) : R := match l with | [a0, a1, a2, a3, a4] => S228 c a0 a1 a2 a3 a4 h | _ => none
theorem W228_ok : WOk Tryz.prog 228 W228 := by
  intro c l h r e
  unfold W228 at e
  split at e
  · exact ⟨P228, by rw [S228_eq]; exact e⟩
  · cases e
/- (*quietus/tree.tree).between -/
def P229 : Pl := (.n none .z (.n none (.n none (.r [[20, 14, 4, 3, 2, 1, 0]]) .z) (.n none .z (.n (some [11, 4, 3, 2, 1, 0]) .z (.n (some [11, 4, 3, 2, 1, 0]) (.n none (.r [[47, 44, 11, 4, 3, 2, 1, 0]]) .z) (.n (some [4]) .z .z))))))
def S229 (c : CV) (a0 a1 a2 a3 a4 : AV) (h : AH) : R :=
pInt .eql a1 (.int .i64 (.ofNat 0)) fun v0 =>
joinC (α := AV × AV × AV × AV × AV × AV × AV × Unit → AH → R) (fun s1 h2 =>
pPick s1.2.1 (.bool true) s1.1 fun v4 =>
pCond v4 (
some (s1.2.2.1, h2)) (
pNil s1.2.2.2.2.2.2.1 fun v5 =>
pFieldA v5 0 fun v6 =>
pLoad1 h2 v6 fun v7 =>
pInt .add s1.2.2.2.2.2.1 (.int .i64 (.ofNat 0)) fun v8 =>
pCall c (.fn 207 [] []) [v7, v8] h2 fun v9 h10 =>
joinC (α := AV × AV × AV × AV × AV × AV × Unit → AH → List Nat → R) (fun s11 h12 d13 =>
joinC (α := AV × AV × AV × AV × AV × AV × Unit → AH → List Nat → R) (fun s15 h16 d17 =>
joinC (α := AV × Unit → AH → List Nat → R) (fun s19 h20 d21 =>
pLeave d21 h20 fun h23 =>
some (s19.1, h23)) fun j22 =>
pInt .lss s15.1 s15.2.2.1 fun v24 =>
pCond v24 (
pCall c (.fn 261 [] []) [s15.2.2.2.2.2.1, s15.2.2.2.2.1, (.int .i64 (.ofNat 1))] h16 fun v25 h26 =>
pCall c (.fn 229 [] []) [s15.2.2.2.2.2.1, v25, s15.2.2.2.1, s15.2.2.1, s15.2.1] h26 fun v27 h28 =>
j22 (v27, ()) h28 d17) (
j22 (s15.2.1, ()) h16 d17)) fun j18 =>
pInt .leq s11.2.2.2.1 s11.1 fun v29 =>
joinC (α := AV × AV × AV × AV × AV × AV × AV × AV × Unit → AH → R) (fun s30 h31 =>
pPick s30.2.1 s30.1 (.bool false) fun v33 =>
pCond v33 (
pNil s30.2.2.2.2.2.2.2.1 fun v34 =>
pFieldA v34 0 fun v35 =>
pLoad1 h31 v35 fun v36 =>
pInt .add s30.2.2.2.2.2.2.1 (.int .i64 (.ofNat 1)) fun v37 =>
pCall c (.fn 207 [] []) [v36, v37] h31 fun v38 h39 =>
pBuild [(.int .u64 (.ofNat 0)), (.int .u64 (.ofNat 0))] [(0, 1, s30.2.2.1), (1, 1, v38)] fun v40 =>
pBuildS h39 303 [(.int .u64 (.ofNat 0)), (.int .u64 (.ofNat 0))] 1 [(0, 2, v40)] fun v41 h42 =>
pAppend h42 303 2 s30.2.2.2.1 v41 fun v43 h44 =>
j18 (s30.2.2.1, v43, s30.2.2.2.2.1, s30.2.2.2.2.2.1, s30.2.2.2.2.2.2.1, s30.2.2.2.2.2.2.2.1, ()) h44 d13) (
j18 (s30.2.2.1, s30.2.2.2.1, s30.2.2.2.2.1, s30.2.2.2.2.2.1, s30.2.2.2.2.2.2.1, s30.2.2.2.2.2.2.2.1, ()) h31 d13)) fun j32 =>
pWant v29 true (
pInt .leq s11.1 s11.2.2.1 fun v45 =>
j32 (v45, v29, s11.1, s11.2.1, s11.2.2.1, s11.2.2.2.1, s11.2.2.2.2.1, s11.2.2.2.2.2.1, ()) h12) (
j32 (.undef, v29, s11.1, s11.2.1, s11.2.2.1, s11.2.2.2.1, s11.2.2.2.2.1, s11.2.2.2.2.2.1, ()) h12)) fun j14 =>
pInt .lss s1.2.2.2.2.1 v9 fun v46 =>
pCond v46 (
pCall c (.fn 261 [] []) [s1.2.2.2.2.2.2.1, s1.2.2.2.2.2.1, (.int .i64 (.ofNat 0))] h10 fun v47 h48 =>
pCall c (.fn 229 [] []) [s1.2.2.2.2.2.2.1, v47, s1.2.2.2.2.1, s1.2.2.2.1, s1.2.2.1] h48 fun v49 h50 =>
j14 (v9, v49, s1.2.2.2.1, s1.2.2.2.2.1, s1.2.2.2.2.2.1, s1.2.2.2.2.2.2.1, ()) h50 []) (
j14 (v9, s1.2.2.1, s1.2.2.2.1, s1.2.2.2.2.1, s1.2.2.2.2.2.1, s1.2.2.2.2.2.2.1, ()) h10 []))) fun j3 =>
pWant v0 false (
pNil a0 fun v51 =>
pFieldA v51 0 fun v52 =>
pLoad1 h v52 fun v53 =>
pCall c (.fn 253 [] []) [v53] h fun v54 h55 =>
pUn .not v54 fun v56 =>
j3 (v56, v0, a4, a3, a2, a1, a0, ()) h55) (
j3 (.undef, v0, a4, a3, a2, a1, a0, ()) h)
theorem S229_eq (c : CV) (a0 a1 a2 a3 a4 : AV) (h : AH) : enterK Tryz.prog NN P229 c 229 [a0, a1, a2, a3, a4] h = S229 c a0 a1 a2 a3 a4 h := by kernel_rfl
def W229 (c : CV) (l : List AV) (h : AH) : R := match l with | [a0, a1, a2, a3, a4] => S229 c a0 a1 a2 a3 a4 h | _ => none
theorem W229_ok : WOk Tryz.prog 229 W229 := by
  intro c l h r e
  unfold W229 at e
  split at e
  · exact ⟨P229, by rw [S229_eq]; exact e⟩
  · cases e
/- (*quietus/tree.tree).top -/
def P230 : Pl := .z
def S230 (c : CV) (a0 : AV) (h : AH) : R :=
pNil a0 fun v0 =>
pFieldA v0 0 fun v1 =>
pLoad1 h v1 fun v2 =>
pNil a0 fun v3 =>
pFieldA v3 1 fun v4 =>
pLoad1 h v4 fun v5 =>
pCall c (.fn 254 [] []) [v2, v5] h fun v6 h7 =>
some (v6, h7)
theorem S230_eq (c : CV) (a0 : AV) (h : AH) : enterK Tryz.prog NN P230 c 230 [a0] h = S230 c a0 h := by kernel_rfl
def W230 (c : CV) (l : List AV) (h : AH) : R := match l with | [a0] => S230 c a0 h | _ => none
theorem W230_ok : WOk Tryz.prog 230 W230 := by
  intro c l h r e
  unfold W230 at e
  split at e
  · exact ⟨P230, by rw [S230_eq]; exact e⟩
  · cases e
/- quietus/arena.Class -/
def P231 : Pl := (.n none .z (.n none .z (.n none (.n none .z (.n none (.n (some [3, 0]) .z .z) .z)) .z)))
def S231 (c : CV) (a0 : AV) (h : AH) : R :=
pInt .lss a0 (.int .i64 (.ofNat 1)) fun v0 =>
pCond v0 (
some ((.int .i64 (.ofNat 0)), h)) (
loopC (σ := AV × AV × Unit) NN (fun i4 s1 h2 d3 =>
pInt .leq s1.1 (.int .i64 (.ofNat 4)) fun v5 =>
pCond v5 (
pCall c (.fn 268 [] []) [s1.1] h2 fun v6 h7 =>
pInt .geq v6 s1.2.1 fun v8 =>
pCond v8 (
pLeave d3 h7 fun h9 =>
some (s1.1, h9)) (
pInt .add s1.1 (.int .i64 (.ofNat 1)) fun v10 =>
i4 (v10, s1.2.1, ()) h7 d3)) (
pLeave d3 h2 fun h11 =>
some ((.int .i64 (.ofNat 0)), h11))) ((.int .i64 (.ofNat 1)), a0, ()) h [])
theorem S231_eq (c : CV) (a0 : AV) (h : AH) : enterK Tryz.prog NN P231 c 231 [a0] h = S231 c a0 h := by kernel_rfl
def W231 (c : CV) (l : List AV) (h : AH) : R := match l with | [a0] => S231 c a0 h | _ => none
theorem W231_ok : WOk Tryz.prog 231 W231 := by
  intro c l h r e
  unfold W231 at e
  split at e
  · exact ⟨P231, by rw [S231_eq]; exact e⟩
  · cases e
/- quietus/arena.again -/
def P232 : Pl := (.n none .z (.n none .z (.n none .z (.n none .z (.n (some [10, 8]) .z .z)))))
def S232 (c : CV) (a0 a1 a2 : AV) (h : AH) : R :=
pInt .geq a2 (.int .u64 (.ofNat 2147483648)) fun v0 =>
pCond v0 (
some ((.tup [(.int .i64 (.ofNat 0)), (.int .i64 (.ofNat 2))]), h)) (
pConvI .i64 a2 fun v1 =>
pCall c (.fn 105 [] []) [a0, v1] h fun v2 h3 =>
pExtract v2 0 fun v4 =>
pExtract v2 1 fun v5 =>
joinC (α := AV × AV × Unit → AH → List Nat → R) (fun s6 h7 d8 =>
pInt .neq s6.1 (.int .i64 (.ofNat 0)) fun v10 =>
pCond v10 (
pLeave d8 h7 fun h11 =>
some ((.tup [(.int .i64 (.ofNat 0)), s6.1]), h11)) (
pLeave d8 h7 fun h12 =>
some ((.tup [s6.2.1, (.int .i64 (.ofNat 0))]), h12))) fun j9 =>
pInt .eql v5 (.int .i64 (.ofNat 0)) fun v13 =>
pCond v13 (
pCall c (.fn 106 [] []) [a1] h3 fun v14 h15 =>
pBuild [(.int .i64 (.ofNat 0)), (.int .u64 (.ofNat 0))] [(0, 1, v14), (1, 1, v4)] fun v16 =>
pInt .sub v1 (.int .i64 (.ofNat 1)) fun v17 =>
pInt .add a1 (.int .i64 (.ofNat 8)) fun v18 =>
pConvI .u64 v18 fun v19 =>
pBuild [(.int .i64 (.ofNat 0)), (.int .u64 (.ofNat 0))] [(0, 1, v17), (1, 1, v19)] fun v20 =>
pBuildS h15 153 [(.int .i64 (.ofNat 0)), (.int .u64 (.ofNat 0))] 2 [(0, 2, v16), (2, 2, v20)] fun v21 h22 =>
pCall c (.fn 107 [] []) [a0, v21] h22 fun v23 h24 =>
j9 (v23, v1, ()) h24 []) (
j9 (v5, v1, ()) h3 []))
theorem S232_eq (c : CV) (a0 a1 a2 : AV) (h : AH) : enterK Tryz.prog NN P232 c 232 [a0, a1, a2] h = S232 c a0 a1 a2 h := by kernel_rfl
def W232 (c : CV) (l : List AV) (h : AH) : R := match l with | [a0, a1, a2] => S232 c a0 a1 a2 h | _ => none
theorem W232_ok : WOk Tryz.prog 232 W232 := by
  intro c l h r e
  unfold W232 at e
  split at e
  · exact ⟨P232, by rw [S232_eq]; exact e⟩
  · cases e
/- quietus/arena.grown -/
def P233 : Pl := (.n none .z (.n none .z (.n none .z (.n none (.n none (.r [[22, 20, 6, 1, 0], [33, 24, 6, 1, 0]]) .z) .z))))
def S233 (c : CV) (a0 a1 : AV) (h : AH) : R :=
pCall c (.fn 105 [] []) [a0, (.int .i64 (.ofNat 5))] h fun v0 h1 =>
pExtract v0 0 fun v2 =>
pExtract v0 1 fun v3 =>
pInt .neq v3 (.int .i64 (.ofNat 0)) fun v4 =>
pCond v4 (
some ((.tup [(.int .i64 (.ofNat 0)), v3]), h1)) (
pInt .lss v2 (.int .u64 (.ofNat 14)) fun v5 =>
joinC (α := AV × AV × AV × AV × AV × Unit → AH → R) (fun s6 h7 =>
pPick s6.2.1 (.bool true) s6.1 fun v9 =>
joinC (α := AV × AV × AV × AV × AV × Unit → AH → R) (fun s10 h11 =>
pPick s10.2.1 (.bool true) s10.1 fun v13 =>
pCond v13 (
some ((.tup [(.int .i64 (.ofNat 0)), (.int .i64 (.ofNat 4))]), h11)) (
pConvI .i64 s10.2.2.1 fun v14 =>
pInt .add v14 (.int .i64 (.ofNat 1)) fun v15 =>
pCall c (.fn 268 [] []) [s10.2.2.2.1] h11 fun v16 h17 =>
pInt .add v15 v16 fun v18 =>
pConvI .u64 v18 fun v19 =>
pBuild [(.int .i64 (.ofNat 0)), (.int .u64 (.ofNat 0))] [(0, 1, (.int .i64 (.ofNat 5))), (1, 1, v19)] fun v20 =>
pInt .add s10.2.2.2.1 (.int .i64 (.ofNat 8)) fun v21 =>
pConvI .u64 v21 fun v22 =>
pBuild [(.int .i64 (.ofNat 0)), (.int .u64 (.ofNat 0))] [(0, 1, v14), (1, 1, v22)] fun v23 =>
pBuildS h17 153 [(.int .i64 (.ofNat 0)), (.int .u64 (.ofNat 0))] 2 [(0, 2, v20), (2, 2, v23)] fun v24 h25 =>
pCall c (.fn 107 [] []) [s10.2.2.2.2.1, v24] h25 fun v26 h27 =>
pInt .neq v26 (.int .i64 (.ofNat 0)) fun v28 =>
pCond v28 (
some ((.tup [(.int .i64 (.ofNat 0)), v26]), h27)) (
pInt .add v14 (.int .i64 (.ofNat 1)) fun v29 =>
some ((.tup [v29, (.int .i64 (.ofNat 0))]), h27)))) fun j12 =>
pWant v9 false (
pConvI .i64 s6.2.2.1 fun v30 =>
pInt .add v30 (.int .i64 (.ofNat 1)) fun v31 =>
pCall c (.fn 268 [] []) [s6.2.2.2.1] h7 fun v32 h33 =>
pInt .add v31 v32 fun v34 =>
pCall c (.fn 133 [] []) [s6.2.2.2.2.1] h33 fun v35 h36 =>
pInt .gtr v34 v35 fun v37 =>
j12 (v37, v9, s6.2.2.1, s6.2.2.2.1, s6.2.2.2.2.1, ()) h36) (
j12 (.undef, v9, s6.2.2.1, s6.2.2.2.1, s6.2.2.2.2.1, ()) h7)) fun j8 =>
pWant v5 false (
pInt .geq v2 (.int .u64 (.ofNat 2147483648)) fun v38 =>
j8 (v38, v5, v2, a1, a0, ()) h1) (
j8 (.undef, v5, v2, a1, a0, ()) h1))
theorem S233_eq (c : CV) (a0 a1 : AV) (h : AH) : enterK Tryz.prog NN P233 c 233 [a0, a1] h = S233 c a0 a1 h := by kernel_rfl
def W233 (c : CV) (l : List AV) (h : AH) : R := match l with | [a0, a1] => S233 c a0 a1 h | _ => none
theorem W233_ok : WOk Tryz.prog 233 W233 := by
  intro c l h r e
  unfold W233 at e
  split at e
  · exact ⟨P233, by rw [S233_eq]; exact e⟩
  · cases e
/- (*quietus/view.View).Free -/
def P234 : Pl := .z
def S234 (c : CV) (a0 a1 : AV) (h : AH) : R :=
pNil a0 fun v0 =>
pFieldA v0 2 fun v1 =>
pLoad1 h v1 fun v2 =>
pCall c (.fn 269 [] []) [v2, a1] h fun _ h4 =>
some ((.tup []), h4)
theorem S234_eq (c : CV) (a0 a1 : AV) (h : AH) : enterK Tryz.prog NN P234 c 234 [a0, a1] h = S234 c a0 a1 h := by kernel_rfl
def W234 (c : CV) (l : List AV) (h : AH) : R := match l with | [a0, a1] => S234 c a0 a1 h | _ => none
theorem W234_ok : WOk Tryz.prog 234 W234 := by
  intro c l h r e
  unfold W234 at e
  split at e
  · exact ⟨P234, by rw [S234_eq]; exact e⟩
  · cases e
/- (*quietus/view.View).Open -/
def P235 : Pl := .z
def S235 (c : CV) (a0 : AV) (h : AH) : R :=
pNil a0 fun v0 =>
pFieldA v0 2 fun v1 =>
pLoad1 h v1 fun v2 =>
pCall c (.fn 270 [] []) [v2] h fun v3 h4 =>
some (v3, h4)
theorem S235_eq (c : CV) (a0 : AV) (h : AH) : enterK Tryz.prog NN P235 c 235 [a0] h = S235 c a0 h := by kernel_rfl
def W235 (c : CV) (l : List AV) (h : AH) : R := match l with | [a0] => S235 c a0 h | _ => none
theorem W235_ok : WOk Tryz.prog 235 W235 := by
  intro c l h r e
  unfold W235 at e
  split at e
  · exact ⟨P235, by rw [S235_eq]; exact e⟩
  · cases e
/- (*quietus/slate.Slate).Len -/
def P236 : Pl := .z
def S236 (_ : CV) (a0 : AV) (h : AH) : R :=
pNil a0 fun v0 =>
pFieldA v0 0 fun v1 =>
pLoad1 h v1 fun v2 =>
pLenS v2 fun v3 =>
some (v3, h)
theorem S236_eq (c : CV) (a0 : AV) (h : AH) : enterK Tryz.prog NN P236 c 236 [a0] h = S236 c a0 h := by kernel_rfl
def W236 (c : CV) (l : List AV) (h : AH) : R := match l with | [a0] => S236 c a0 h | _ => none
theorem W236_ok : WOk Tryz.prog 236 W236 := by
  intro c l h r e
  unfold W236 at e
  split at e
  · exact ⟨P236, by rw [S236_eq]; exact e⟩
  · cases e
/- (*quietus/levels.Levels).Keep -/
def P237 : Pl := (.n none .z (.n none .z (.n none .z (.n none .z (.n none .z (.n none (.r [[2]]) .z))))))
def S237 (c : CV) (a0 : AV) (h : AH) : R :=
pCall c (.fn 178 [] []) [a0] h fun v0 h1 =>
pCall c (.fn 239 [] []) [a0] h1 fun v2 h3 =>
pInt .neq v2 (.int .i64 (.ofNat 0)) fun v4 =>
pCond v4 (
some (v2, h3)) (
pCall c (.fn 178 [] []) [a0] h3 fun v5 h6 =>
pNil v5 fun v7 =>
pFieldA v7 1 fun v8 =>
pLoad1 h6 v8 fun v9 =>
pNil v0 fun v10 =>
pFieldA v10 1 fun v11 =>
pLoad1 h6 v11 fun v12 =>
pAppend h6 3 1 v9 v12 fun v13 h14 =>
pNil v5 fun v15 =>
pFieldA v15 1 fun v16 =>
pStore h14 v16 v13 1 fun h17 =>
joinC (α := AV × Unit → AH → R) (fun s18 h19 =>
some (s18.1, h19)) fun j20 =>
pNil v5 fun v21 =>
pFieldA v21 0 fun v22 =>
pLoad1 h17 v22 fun v23 =>
pNil v0 fun v24 =>
pFieldA v24 0 fun v25 =>
pLoad1 h17 v25 fun v26 =>
pCall c (.fn 111 [] []) [v26] h17 fun v27 h28 =>
pCall c (.fn 110 [] []) [v23, v27] h28 fun v29 h30 =>
pChk v22 none v23 h17 h28 h17.nx <|
j20 (v29, ()) h30)
theorem S237_eq (c : CV) (a0 : AV) (h : AH) : enterK Tryz.prog NN P237 c 237 [a0] h = S237 c a0 h := by kernel_rfl
def W237 (c : CV) (l : List AV) (h : AH) : R := match l with | [a0] => S237 c a0 h | _ => none
theorem W237_ok : WOk Tryz.prog 237 W237 := by
  intro c l h r e
  unfold W237 at e
  split at e
  · exact ⟨P237, by rw [S237_eq]; exact e⟩
  · cases e
/- (*quietus/slate.Slate).Cut -/
def P238 : Pl := .z
def S238 (c : CV) (a0 a1 : AV) (h : AH) : R :=
pNil a0 fun v0 =>
pFieldA v0 0 fun v1 =>
pLoad1 h v1 fun v2 =>
pNil a0 fun v3 =>
pFieldA v3 0 fun v4 =>
pLoad1 h v4 fun v5 =>
pLenS v5 fun v6 =>
pMM false [a1, v6] fun v7 =>
pMM true [(.int .i64 (.ofNat 0)), v7] fun v8 =>
pSlice h 20 1 v2 none (some v8) fun v9 =>
pCall c (.fn 92 [] []) [v9] h fun v10 h11 =>
pNil a0 fun v12 =>
pFieldA v12 0 fun v13 =>
pStore h11 v13 v10 1 fun h14 =>
some ((.tup []), h14)
theorem S238_eq (c : CV) (a0 a1 : AV) (h : AH) : enterK Tryz.prog NN P238 c 238 [a0, a1] h = S238 c a0 a1 h := by kernel_rfl
def W238 (c : CV) (l : List AV) (h : AH) : R := match l with | [a0, a1] => S238 c a0 a1 h | _ => none
theorem W238_ok : WOk Tryz.prog 238 W238 := by
  intro c l h r e
  unfold W238 at e
  split at e
  · exact ⟨P238, by rw [S238_eq]; exact e⟩
  · cases e
/- (*quietus/levels.Levels).Drop -/
def P239 : Pl := .z
def S239 (_ : CV) (a0 : AV) (h : AH) : R :=
pNil a0 fun v0 =>
pFieldA v0 1 fun v1 =>
pLoad1 h v1 fun v2 =>
pLenS v2 fun v3 =>
pInt .eql v3 (.int .i64 (.ofNat 1)) fun v4 =>
pCond v4 (
some ((.int .i64 (.ofNat 10)), h)) (
pNil a0 fun v5 =>
pFieldA v5 1 fun v6 =>
pLoad1 h v6 fun v7 =>
pNil a0 fun v8 =>
pFieldA v8 1 fun v9 =>
pLoad1 h v9 fun v10 =>
pLenS v10 fun v11 =>
pInt .sub v11 (.int .i64 (.ofNat 1)) fun v12 =>
pSlice h 167 1 v7 none (some v12) fun v13 =>
pNil a0 fun v14 =>
pFieldA v14 1 fun v15 =>
pStore h v15 v13 1 fun h16 =>
some ((.int .i64 (.ofNat 0)), h16))
theorem S239_eq (c : CV) (a0 : AV) (h : AH) : enterK Tryz.prog NN P239 c 239 [a0] h = S239 c a0 h := by kernel_rfl
def W239 (c : CV) (l : List AV) (h : AH) : R := match l with | [a0] => S239 c a0 h | _ => none
theorem W239_ok : WOk Tryz.prog 239 W239 := by
  intro c l h r e
  unfold W239 at e
  split at e
  · exact ⟨P239, by rw [S239_eq]; exact e⟩
  · cases e
/- (*quietus/levels.Levels).Room -/
def P240 : Pl := (.n none .z (.n none .z (.n none (.n none .z (.n none (.n (some [15, 14, 13, 3]) .z .z) .z)) .z)))
def S240 (c : CV) (a0 : AV) (h : AH) : R :=
pNil a0 fun v0 =>
pFieldA v0 0 fun v1 =>
pLoad1 h v1 fun v2 =>
pNil a0 fun v3 =>
pFieldA v3 1 fun v4 =>
pLoad1 h v4 fun v5 =>
pLenS v5 fun v6 =>
loopC (σ := AV × AV × AV × AV × Unit) NN (fun i10 s7 h8 d9 =>
pInt .lss s7.1 s7.2.1 fun v11 =>
pCond v11 (
pIdxS s7.2.2.1 s7.1 1 fun v12 =>
pLoad1 h8 v12 fun v13 =>
pNil v13 fun v14 =>
pFieldA v14 0 fun v15 =>
pLoad1 h8 v15 fun v16 =>
pCall c (.fn 271 [] []) [v16] h8 fun v17 h18 =>
pInt .sub s7.2.2.2.1 v17 fun v19 =>
pInt .add s7.1 (.int .i64 (.ofNat 1)) fun v20 =>
i10 (v20, s7.2.1, s7.2.2.1, v19, ()) h18 d9) (
pLeave d9 h8 fun h21 =>
some (s7.2.2.2.1, h21))) ((.int .i64 (.ofNat 0)), v6, v5, v2, ()) h []
theorem S240_eq (c : CV) (a0 : AV) (h : AH) : enterK Tryz.prog NN P240 c 240 [a0] h = S240 c a0 h := by kernel_rfl
def W240 (c : CV) (l : List AV) (h : AH) : R := match l with | [a0] => S240 c a0 h | _ => none
theorem W240_ok : WOk Tryz.prog 240 W240 := by
  intro c l h r e
  unfold W240 at e
  split at e
  · exact ⟨P240, by rw [S240_eq]; exact e⟩
  · cases e
/- slices.IndexFunc[[]quietus/api.Cell,quietus/api.Cell] -/
def P241 : Pl := (.n none .z (.n none (.n none .z (.n none (.n (some [8, 7, 1, 0]) .z .z) .z)) .z))
def S241 (c : CV) (a0 a1 : AV) (h : AH) : R :=
pLenS a0 fun v0 =>
loopC (σ := AV × AV × AV × AV × Unit) NN (fun i4 s1 h2 d3 =>
pInt .lss s1.1 s1.2.1 fun v5 =>
pCond v5 (
pIdxS s1.2.2.2.1 s1.1 2 fun v6 =>
pLoadN h2 v6 2 fun v7 =>
pCall c s1.2.2.1 [v7] h2 fun v8 h9 =>
pCond v8 (
pLeave d3 h9 fun h10 =>
some (s1.1, h10)) (
pInt .add s1.1 (.int .i64 (.ofNat 1)) fun v11 =>
i4 (v11, s1.2.1, s1.2.2.1, s1.2.2.2.1, ()) h9 d3)) (
pLeave d3 h2 fun h12 =>
some ((.int .i64 (.negSucc 0)), h12))) ((.int .i64 (.ofNat 0)), v0, a1, a0, ()) h []
theorem S241_eq (c : CV) (a0 a1 : AV) (h : AH) : enterK Tryz.prog NN P241 c 241 [a0, a1] h = S241 c a0 a1 h := by kernel_rfl
def W241 (c : CV) (l : List AV) (h : AH) : R := match l with | [a0, a1] => S241 c a0 a1 h | _ => none
theorem W241_ok : WOk Tryz.prog 241 W241 := by
  intro c l h r e
  unfold W241 at e
  split at e
  · exact ⟨P241, by rw [S241_eq]; exact e⟩
  · cases e
/- (*quietus/writes.Writes).find$1 -/
def P242 : Pl := .z
def S242 (_ : CV) (a0 a1 : AV) (h : AH) : R :=
pBox h 153 a0 fun v0 h1 =>
pFieldA v0 0 fun v2 =>
pLoad1 h1 v2 fun v3 =>
pLoad1 h1 a1 fun v4 =>
pInt .eql v3 v4 fun v5 =>
some (v5, h1)
theorem S242_eq (c : CV) (a0 a1 : AV) (h : AH) : enterK Tryz.prog NN P242 c 242 [a0, a1] h = S242 c a0 a1 h := by kernel_rfl
def W242 (c : CV) (l : List AV) (h : AH) : R := match l with | [a0, a1] => S242 c a0 a1 h | _ => none
theorem W242_ok : WOk Tryz.prog 242 W242 := by
  intro c l h r e
  unfold W242 at e
  split at e
  · exact ⟨P242, by rw [S242_eq]; exact e⟩
  · cases e
/- slices.siftDownOrdered[int] -/
def P243 : Pl := (.n none .z (.n none (.n (some [8, 3, 2, 0]) (.n none (.n none .z (.n none .z (.n (some [9, 8, 3, 2, 0]) (.n none (.r [[35, 21, 9, 8, 3, 2, 0]]) .z) .z))) .z) .z) .z))
def S243 (c : CV) (a0 a1 a2 a3 : AV) (h : AH) : R :=
loopC (σ := AV × AV × AV × AV × Unit) NN (fun i3 s0 h1 d2 =>
pInt .mul (.int .i64 (.ofNat 2)) s0.1 fun v4 =>
pInt .add v4 (.int .i64 (.ofNat 1)) fun v5 =>
pInt .geq v5 s0.2.2.1 fun v6 =>
pCond v6 (
pLeave d2 h1 fun h7 =>
some ((.tup []), h7)) (
joinC (α := AV × AV × AV × AV × AV × Unit → AH → List Nat → R) (fun s8 h9 d10 =>
pInt .add s8.2.2.1 s8.2.1 fun v12 =>
pIdxS s8.2.2.2.2.1 v12 1 fun v13 =>
pLoad1 h9 v13 fun v14 =>
pInt .add s8.2.2.1 s8.1 fun v15 =>
pIdxS s8.2.2.2.2.1 v15 1 fun v16 =>
pLoad1 h9 v16 fun v17 =>
pCall c (.fn 187 [] []) [v14, v17] h9 fun v18 h19 =>
pUn .not v18 fun v20 =>
pCond v20 (
pLeave d10 h19 fun h21 =>
some ((.tup []), h21)) (
pInt .add s8.2.2.1 s8.2.1 fun v22 =>
pInt .add s8.2.2.1 s8.1 fun v23 =>
pInt .add s8.2.2.1 s8.1 fun v24 =>
pIdxS s8.2.2.2.2.1 v24 1 fun v25 =>
pLoad1 h19 v25 fun v26 =>
pInt .add s8.2.2.1 s8.2.1 fun v27 =>
pIdxS s8.2.2.2.2.1 v27 1 fun v28 =>
pLoad1 h19 v28 fun v29 =>
pIdxS s8.2.2.2.2.1 v22 1 fun v30 =>
pStore h19 v30 v26 1 fun h31 =>
pIdxS s8.2.2.2.2.1 v23 1 fun v32 =>
pStore h31 v32 v29 1 fun h33 =>
i3 (s8.1, s8.2.2.1, s8.2.2.2.1, s8.2.2.2.2.1, ()) h33 d10)) fun j11 =>
pInt .add v5 (.int .i64 (.ofNat 1)) fun v34 =>
pInt .lss v34 s0.2.2.1 fun v35 =>
joinC (α := AV × AV × AV × AV × AV × AV × AV × Unit → AH → R) (fun s36 h37 =>
pPick s36.2.1 s36.1 (.bool false) fun v39 =>
pCond v39 (
pInt .add s36.2.2.1 (.int .i64 (.ofNat 1)) fun v40 =>
j11 (v40, s36.2.2.2.1, s36.2.2.2.2.1, s36.2.2.2.2.2.1, s36.2.2.2.2.2.2.1, ()) h37 d2) (
j11 (s36.2.2.1, s36.2.2.2.1, s36.2.2.2.2.1, s36.2.2.2.2.2.1, s36.2.2.2.2.2.2.1, ()) h37 d2)) fun j38 =>
pWant v35 true (
pInt .add s0.2.1 v5 fun v41 =>
pIdxS s0.2.2.2.1 v41 1 fun v42 =>
pLoad1 h1 v42 fun v43 =>
pInt .add s0.2.1 v5 fun v44 =>
pInt .add v44 (.int .i64 (.ofNat 1)) fun v45 =>
pIdxS s0.2.2.2.1 v45 1 fun v46 =>
pLoad1 h1 v46 fun v47 =>
pCall c (.fn 187 [] []) [v43, v47] h1 fun v48 h49 =>
j38 (v48, v35, v5, s0.1, s0.2.1, s0.2.2.1, s0.2.2.2.1, ()) h49) (
j38 (.undef, v35, v5, s0.1, s0.2.1, s0.2.2.1, s0.2.2.2.1, ()) h1))) (a1, a3, a2, a0, ()) h []
theorem S243_eq (c : CV) (a0 a1 a2 a3 : AV) (h : AH) : enterK Tryz.prog NN P243 c 243 [a0, a1, a2, a3] h = S243 c a0 a1 a2 a3 h := by kernel_rfl
def W243 (c : CV) (l : List AV) (h : AH) : R := match l with | [a0, a1, a2, a3] => S243 c a0 a1 a2 a3 h | _ => none
theorem W243_ok : WOk Tryz.prog 243 W243 := by
  intro c l h r e
  unfold W243 at e
  split at e
  · exact ⟨P243, by rw [S243_eq]; exact e⟩
  · cases e
/- slices.nextPowerOfTwo -/
def P244 : Pl := .z
def S244 (c : CV) (a0 : AV) (h : AH) : R :=
pConvI .u64 a0 fun v0 =>
pCall c (.fn 141 [] []) [v0] h fun v1 h2 =>
pShift .shl (.int .u64 (.ofNat 1)) v1 fun v3 =>
some (v3, h2)
theorem S244_eq (c : CV) (a0 : AV) (h : AH) : enterK Tryz.prog NN P244 c 244 [a0] h = S244 c a0 h := by kernel_rfl
def W244 (c : CV) (l : List AV) (h : AH) : R := match l with | [a0] => S244 c a0 h | _ => none
theorem W244_ok : WOk Tryz.prog 244 W244 := by
  intro c l h r e
  unfold W244 at e
  split at e
  · exact ⟨P244, by rw [S244_eq]; exact e⟩
  · cases e
/- (*slices.xorshift).Next -/
def P245 : Pl := .z
def S245 (_ : CV) (a0 : AV) (h : AH) : R :=
pNil a0 fun v0 =>
pLoad1 h v0 fun v1 =>
pNil a0 fun v2 =>
pLoad1 h v2 fun v3 =>
pShift .shl v3 (.int .u64 (.ofNat 13)) fun v4 =>
pInt .xor v1 v4 fun v5 =>
pNil a0 fun v6 =>
pStore h v6 v5 1 fun h7 =>
pNil a0 fun v8 =>
pLoad1 h7 v8 fun v9 =>
pNil a0 fun v10 =>
pLoad1 h7 v10 fun v11 =>
pShift .shr v11 (.int .u64 (.ofNat 7)) fun v12 =>
pInt .xor v9 v12 fun v13 =>
pNil a0 fun v14 =>
pStore h7 v14 v13 1 fun h15 =>
pNil a0 fun v16 =>
pLoad1 h15 v16 fun v17 =>
pNil a0 fun v18 =>
pLoad1 h15 v18 fun v19 =>
pShift .shl v19 (.int .u64 (.ofNat 17)) fun v20 =>
pInt .xor v17 v20 fun v21 =>
pNil a0 fun v22 =>
pStore h15 v22 v21 1 fun h23 =>
pNil a0 fun v24 =>
pLoad1 h23 v24 fun v25 =>
some (v25, h23)
theorem S245_eq (c : CV) (a0 : AV) (h : AH) : enterK Tryz.prog NN P245 c 245 [a0] h = S245 c a0 h := by kernel_rfl
def W245 (c : CV) (l : List AV) (h : AH) : R := match l with | [a0] => S245 c a0 h | _ => none
theorem W245_ok : WOk Tryz.prog 245 W245 := by
  intro c l h r e
  unfold W245 at e
  split at e
  · exact ⟨P245, by rw [S245_eq]; exact e⟩
  · cases e
/- slices.medianAdjacentOrdered[int] -/
def P246 : Pl := .z
def S246 (c : CV) (a0 a1 a2 : AV) (h : AH) : R :=
pInt .sub a1 (.int .i64 (.ofNat 1)) fun v0 =>
pInt .add a1 (.int .i64 (.ofNat 1)) fun v1 =>
pCall c (.fn 247 [] []) [a0, v0, a1, v1, a2] h fun v2 h3 =>
some (v2, h3)
theorem S246_eq (c : CV) (a0 a1 a2 : AV) (h : AH) : enterK Tryz.prog NN P246 c 246 [a0, a1, a2] h = S246 c a0 a1 a2 h := by kernel_rfl
def W246 (c : CV) (l : List AV) (h : AH) : R := match l with | [a0, a1, a2] => S246 c a0 a1 a2 h | _ => none
theorem W246_ok : WOk Tryz.prog 246 W246 := by
  intro c l h r e
  unfold W246 at e
  split at e
  · exact ⟨P246, by rw [S246_eq]; exact e⟩
  · cases e
/- slices.medianOrdered[int] -/
def P247 : Pl := .z
def S247 (c : CV) (a0 a1 a2 a3 a4 : AV) (h : AH) : R :=
pCall c (.fn 272 [] []) [a0, a1, a2, a4] h fun v0 h1 =>
pExtract v0 0 fun v2 =>
pExtract v0 1 fun v3 =>
pCall c (.fn 272 [] []) [a0, v3, a3, a4] h1 fun v4 h5 =>
pExtract v4 0 fun v6 =>
pExtract v4 1 fun _ =>
pCall c (.fn 272 [] []) [a0, v2, v6, a4] h5 fun v8 h9 =>
pExtract v8 0 fun _ =>
pExtract v8 1 fun v11 =>
some (v11, h9)
theorem S247_eq (c : CV) (a0 a1 a2 a3 a4 : AV) (h : AH) : enterK Tryz.prog NN P247 c 247 [a0, a1, a2, a3, a4] h = S247 c a0 a1 a2 a3 a4 h := by kernel_rfl
def W247 (c : CV) (l : List AV) (h : AH) : R := match l with | [a0, a1, a2, a3, a4] => S247 c a0 a1 a2 a3 a4 h | _ => none
theorem W247_ok : WOk Tryz.prog 247 W247 := by
  intro c l h r e
  unfold W247 at e
  split at e
  · exact ⟨P247, by rw [S247_eq]; exact e⟩
  · cases e
/- cmp.isNaN[int] -/
def P248 : Pl := .z
def S248 (_ : CV) (a0 : AV) (h : AH) : R :=
pInt .neq a0 a0 fun v0 =>
some (v0, h)
theorem S248_eq (c : CV) (a0 : AV) (h : AH) : enterK Tryz.prog NN P248 c 248 [a0] h = S248 c a0 h := by kernel_rfl
def W248 (c : CV) (l : List AV) (h : AH) : R := match l with | [a0] => S248 c a0 h | _ => none
theorem W248_ok : WOk Tryz.prog 248 W248 := by
  intro c l h r e
  unfold W248 at e
  split at e
  · exact ⟨P248, by rw [S248_eq]; exact e⟩
  · cases e
/- math/bits.TrailingZeros32 -/
def P249 : Pl := .z
def S249 (_ : CV) (a0 : AV) (h : AH) : R :=
pInt .eql a0 (.int .u32 (.ofNat 0)) fun v0 =>
pCond v0 (
some ((.int .i64 (.ofNat 32)), h)) (
pUn .neg a0 fun v1 =>
pInt .and a0 v1 fun v2 =>
pInt .mul v2 (.int .u32 (.ofNat 125613361)) fun v3 =>
pShift .shr v3 (.int .u64 (.ofNat 27)) fun _ =>
none /- op -/)
theorem S249_eq (c : CV) (a0 : AV) (h : AH) : enterK Tryz.prog NN P249 c 249 [a0] h = S249 c a0 h := by kernel_rfl
def W249 (c : CV) (l : List AV) (h : AH) : R := match l with | [a0] => S249 c a0 h | _ => none
theorem W249_ok : WOk Tryz.prog 249 W249 := by
  intro c l h r e
  unfold W249 at e
  split at e
  · exact ⟨P249, by rw [S249_eq]; exact e⟩
  · cases e
/- math/bits.TrailingZeros64 -/
def P250 : Pl := .z
def S250 (_ : CV) (a0 : AV) (h : AH) : R :=
pInt .eql a0 (.int .u64 (.ofNat 0)) fun v0 =>
pCond v0 (
some ((.int .i64 (.ofNat 64)), h)) (
pUn .neg a0 fun v1 =>
pInt .and a0 v1 fun v2 =>
pInt .mul v2 (.int .u64 (.ofNat 285870213051353865)) fun v3 =>
pShift .shr v3 (.int .u64 (.ofNat 58)) fun _ =>
none /- op -/)
theorem S250_eq (c : CV) (a0 : AV) (h : AH) : enterK Tryz.prog NN P250 c 250 [a0] h = S250 c a0 h := by kernel_rfl
def W250 (c : CV) (l : List AV) (h : AH) : R := match l with | [a0] => S250 c a0 h | _ => none
theorem W250_ok : WOk Tryz.prog 250 W250 := by
  intro c l h r e
  unfold W250 at e
  split at e
  · exact ⟨P250, by rw [S250_eq]; exact e⟩
  · cases e
/- quietus/draft.of -/
def P251 : Pl := (.n none .z (.n none .z (.n none (.n none .z (.n none (.n (some [14, 13, 12, 3, 0]) .z .z) .z)) (.n none (.n none .z (.n none (.n (some [28, 27, 26, 3]) .z .z) .z)) .z))))
def S251 (c : CV) (a0 : AV) (h : AH) : R :=
pCall c (.fn 133 [] []) [a0] h fun v0 h1 =>
pCall c (.fn 38 [] []) [v0, (.int .i64 (.ofNat 96))] h1 fun v2 h3 =>
pCall c (.fn 47 [] []) [a0] h3 fun v4 h5 =>
pLenS v4 fun v6 =>
loopC (σ := AV × AV × AV × AV × AV × Unit) NN (fun i10 s7 h8 d9 =>
pInt .lss s7.1 s7.2.1 fun v11 =>
pCond v11 (
pIdxS s7.2.2.1 s7.1 2 fun v12 =>
pLoadN h8 v12 2 fun v13 =>
pBox h8 153 (.agg [(.int .i64 (.ofNat 0)), (.int .u64 (.ofNat 0))]) fun v14 h15 =>
pStore h15 v14 v13 2 fun h16 =>
pFieldA v14 0 fun v17 =>
pLoad1 h16 v17 fun v18 =>
pFieldA v14 1 fun v19 =>
pLoad1 h16 v19 fun v20 =>
pCall c (.fn 117 [] []) [s7.2.2.2.1, v18, v20] h16 fun _ h22 =>
pInt .add s7.1 (.int .i64 (.ofNat 1)) fun v23 =>
i10 (v23, s7.2.1, s7.2.2.1, s7.2.2.2.1, s7.2.2.2.2.1, ()) h22 d9) (
pCall c (.fn 273 [] []) [s7.2.2.2.2.1] h8 fun v24 h25 =>
pLenS v24 fun v26 =>
loopC (σ := AV × AV × AV × AV × Unit) NN (fun i30 s27 h28 d29 =>
pInt .lss s27.1 s27.2.1 fun v31 =>
pCond v31 (
pIdxS s27.2.2.1 s27.1 2 fun v32 =>
pLoadN h28 v32 2 fun v33 =>
pBox h28 153 (.agg [(.int .i64 (.ofNat 0)), (.int .u64 (.ofNat 0))]) fun v34 h35 =>
pStore h35 v34 v33 2 fun h36 =>
pFieldA v34 0 fun v37 =>
pLoad1 h36 v37 fun v38 =>
pFieldA v34 1 fun v39 =>
pLoad1 h36 v39 fun v40 =>
pCall c (.fn 117 [] []) [s27.2.2.2.1, v38, v40] h36 fun _ h42 =>
pInt .add s27.1 (.int .i64 (.ofNat 1)) fun v43 =>
i30 (v43, s27.2.1, s27.2.2.1, s27.2.2.2.1, ()) h42 d29) (
pLeave d29 h28 fun h44 =>
some (s27.2.2.2.1, h44))) ((.int .i64 (.ofNat 0)), v26, v24, s7.2.2.2.1, ()) h25 d9)) ((.int .i64 (.ofNat 0)), v6, v4, v2, a0, ()) h5 []
theorem S251_eq (c : CV) (a0 : AV) (h : AH) : enterK Tryz.prog NN P251 c 251 [a0] h = S251 c a0 h := by kernel_rfl
def W251 (c : CV) (l : List AV) (h : AH) : R := match l with | [a0] => S251 c a0 h | _ => none
theorem W251_ok : WOk Tryz.prog 251 W251 := by
  intro c l h r e
  unfold W251 at e
  split at e
  · exact ⟨P251, by rw [S251_eq]; exact e⟩
  · cases e
/- (*quietus/view.View).Frees -/
def P252 : Pl := .z
def S252 (c : CV) (a0 : AV) (h : AH) : R :=
pNil a0 fun v0 =>
pFieldA v0 2 fun v1 =>
pLoad1 h v1 fun v2 =>
pCall c (.fn 274 [] []) [v2] h fun v3 h4 =>
some (v3, h4)
theorem S252_eq (c : CV) (a0 : AV) (h : AH) : enterK Tryz.prog NN P252 c 252 [a0] h = S252 c a0 h := by kernel_rfl
def W252 (c : CV) (l : List AV) (h : AH) : R := match l with | [a0] => S252 c a0 h | _ => none
theorem W252_ok : WOk Tryz.prog 252 W252 := by
  intro c l h r e
  unfold W252 at e
  split at e
  · exact ⟨P252, by rw [S252_eq]; exact e⟩
  · cases e
/- (*quietus/draft.Draft).Step -/
def P253 : Pl := (.n none .z (.n none .z (.n (some [0]) .z .z)))
def S253 (c : CV) (a0 : AV) (h : AH) : R :=
pNil a0 fun v0 =>
pFieldA v0 2 fun v1 =>
pLoad1 h v1 fun v2 =>
pInt .add v2 (.int .i64 (.ofNat 1)) fun v3 =>
pNil a0 fun v4 =>
pFieldA v4 2 fun v5 =>
pStore h v5 v3 1 fun h6 =>
joinC (α := AV × Unit → AH → List Nat → R) (fun s7 h8 d9 =>
pCall c (.fn 201 [] []) [s7.1] h8 fun v11 h12 =>
pLeave d9 h12 fun h13 =>
some (v11, h13)) fun j10 =>
pNil a0 fun v14 =>
pFieldA v14 2 fun v15 =>
pLoad1 h6 v15 fun v16 =>
pInt .gtr v16 (.int .i64 (.ofNat 2048)) fun v17 =>
pCond v17 (
pCall c (.fn 255 [] []) [a0, (.int .i64 (.ofNat 2))] h6 fun _ h19 =>
j10 (a0, ()) h19 []) (
j10 (a0, ()) h6 [])
theorem S253_eq (c : CV) (a0 : AV) (h : AH) : enterK Tryz.prog NN P253 c 253 [a0] h = S253 c a0 h := by kernel_rfl
def W253 (c : CV) (l : List AV) (h : AH) : R := match l with | [a0] => S253 c a0 h | _ => none
theorem W253_ok : WOk Tryz.prog 253 W253 := by
  intro c l h r e
  unfold W253 at e
  split at e
  · exact ⟨P253, by rw [S253_eq]; exact e⟩
  · cases e
/- (*quietus/draft.Draft).Place -/
def P254 : Pl := .z
def S254 (c : CV) (a0 a1 : AV) (h : AH) : R :=
pCall c (.fn 207 [] []) [a0, a1] h fun v0 h1 =>
pCall c (.fn 275 [] []) [a0, v0] h1 fun v2 h3 =>
some (v2, h3)
theorem S254_eq (c : CV) (a0 a1 : AV) (h : AH) : enterK Tryz.prog NN P254 c 254 [a0, a1] h = S254 c a0 a1 h := by kernel_rfl
def W254 (c : CV) (l : List AV) (h : AH) : R := match l with | [a0, a1] => S254 c a0 a1 h | _ => none
theorem W254_ok : WOk Tryz.prog 254 W254 := by
  intro c l h r e
  unfold W254 at e
  split at e
  · exact ⟨P254, by rw [S254_eq]; exact e⟩
  · cases e
/- (*quietus/draft.Draft).Fail -/
def P255 : Pl := .z
def S255 (c : CV) (a0 a1 : AV) (h : AH) : R :=
pCall c (.fn 201 [] []) [a0] h fun v0 h1 =>
pCond v0 (
pNil a0 fun v2 =>
pFieldA v2 1 fun v3 =>
pStore h1 v3 a1 1 fun h4 =>
some ((.tup []), h4)) (
some ((.tup []), h1))
theorem S255_eq (c : CV) (a0 a1 : AV) (h : AH) : enterK Tryz.prog NN P255 c 255 [a0, a1] h = S255 c a0 a1 h := by kernel_rfl
def W255 (c : CV) (l : List AV) (h : AH) : R := match l with | [a0, a1] => S255 c a0 a1 h | _ => none
theorem W255_ok : WOk Tryz.prog 255 W255 := by
  intro c l h r e
  unfold W255 at e
  split at e
  · exact ⟨P255, by rw [S255_eq]; exact e⟩
  · cases e
/- quietus/table.chain -/
def P256 : Pl := .z
def S256 (_ : CV) (a0 a1 : AV) (h : AH) : R :=
pInt .mul a0 (.int .u64 (.ofNat 11400714819323198485)) fun v0 =>
pShift .shr v0 (.int .u64 (.ofNat 60)) fun v1 =>
pConvI .i64 v1 fun v2 =>
pInt .sub a1 (.int .i64 (.ofNat 1)) fun v3 =>
pInt .and v2 v3 fun v4 =>
some (v4, h)
theorem S256_eq (c : CV) (a0 a1 : AV) (h : AH) : enterK Tryz.prog NN P256 c 256 [a0, a1] h = S256 c a0 a1 h := by kernel_rfl
def W256 (c : CV) (l : List AV) (h : AH) : R := match l with | [a0, a1] => S256 c a0 a1 h | _ => none
theorem W256_ok : WOk Tryz.prog 256 W256 := by
  intro c l h r e
  unfold W256 at e
  split at e
  · exact ⟨P256, by rw [S256_eq]; exact e⟩
  · cases e
/- (*quietus/table.table).each -/
def P257 : Pl := (.n none .z (.n none (.n (some [11, 10, 1, 0]) (.n none .z (.n none .z (.n none (.n none (.n none .z (.n none .z (.n none (.n (some [11, 10, 5, 1, 0]) (.n none (.n none (.r [[32, 27, 11, 10, 5, 1, 0]]) .z) .z) .z) .z))) .z) .z))) .z) .z))
def S257 (c : CV) (a0 a1 : AV) (h : AH) : R :=
pNil a0 fun v0 =>
pFieldA v0 2 fun v1 =>
pLoad1 h v1 fun v2 =>
loopC (σ := AV × AV × AV × AV × Unit) NN (fun i6 s3 h4 d5 =>
pInt .lss s3.1 s3.2.1 fun v7 =>
pCond v7 (
pNil s3.2.2.2.1 fun v8 =>
pFieldA v8 0 fun v9 =>
pLoad1 h4 v9 fun v10 =>
pNil s3.2.2.2.1 fun v11 =>
pFieldA v11 3 fun v12 =>
pLoad1 h4 v12 fun v13 =>
pInt .add v13 s3.1 fun v14 =>
pCall c (.fn 254 [] []) [v10, v14] h4 fun v15 h16 =>
loopC (σ := AV × AV × AV × AV × AV × Unit) NN (fun i20 s17 h18 d19 =>
pInt .neq s17.2.2.1 (.int .i64 (.ofNat 0)) fun v21 =>
joinC (α := AV × AV × AV × AV × AV × AV × AV × Unit → AH → R) (fun s22 h23 =>
pPick s22.2.1 s22.1 (.bool false) fun v25 =>
pCond v25 (
pNil s22.2.2.2.2.2.2.1 fun v26 =>
pFieldA v26 0 fun v27 =>
pLoad1 h23 v27 fun v28 =>
pInt .add s22.2.2.2.2.1 (.int .i64 (.ofNat 2)) fun v29 =>
pCall c (.fn 254 [] []) [v28, v29] h23 fun v30 h31 =>
pCall c s22.2.2.2.2.2.1 [s22.2.2.2.2.1] h31 fun _ h33 =>
i20 (s22.2.2.1, s22.2.2.2.1, v30, s22.2.2.2.2.2.1, s22.2.2.2.2.2.2.1, ()) h33 d19) (
pInt .add s22.2.2.1 (.int .i64 (.ofNat 1)) fun v34 =>
i6 (v34, s22.2.2.2.1, s22.2.2.2.2.2.1, s22.2.2.2.2.2.2.1, ()) h23 d19)) fun j24 =>
pWant v21 true (
pNil s17.2.2.2.2.1 fun v35 =>
pFieldA v35 0 fun v36 =>
pLoad1 h18 v36 fun v37 =>
pCall c (.fn 253 [] []) [v37] h18 fun v38 h39 =>
j24 (v38, v21, s17.1, s17.2.1, s17.2.2.1, s17.2.2.2.1, s17.2.2.2.2.1, ()) h39) (
j24 (.undef, v21, s17.1, s17.2.1, s17.2.2.1, s17.2.2.2.1, s17.2.2.2.2.1, ()) h18)) (s3.1, s3.2.1, v15, s3.2.2.1, s3.2.2.2.1, ()) h16 d5) (
pLeave d5 h4 fun h40 =>
some ((.tup []), h40))) ((.int .i64 (.ofNat 0)), v2, a1, a0, ()) h []
theorem S257_eq (c : CV) (a0 a1 : AV) (h : AH) : enterK Tryz.prog NN P257 c 257 [a0, a1] h = S257 c a0 a1 h := by kernel_rfl
def W257 (c : CV) (l : List AV) (h : AH) : R := match l with | [a0, a1] => S257 c a0 a1 h | _ => none
theorem W257_ok : WOk Tryz.prog 257 W257 := by
  intro c l h r e
  unfold W257 at e
  split at e
  · exact ⟨P257, by rw [S257_eq]; exact e⟩
  · cases e
/- (*quietus/table.table).grow$1 -/
def P258 : Pl := (.n none (.r [[5, 3, 1, 0]]) .z)
def S258 (c : CV) (a0 a1 a2 a3 : AV) (h : AH) : R :=
joinC (α := AV × AV × AV × AV × Unit → AH → R) (fun s0 h1 =>
pLoad1 h1 s0.2.2.1 fun v3 =>
pNil v3 fun v4 =>
pFieldA v4 0 fun v5 =>
pLoad1 h1 v5 fun v6 =>
pInt .add s0.2.2.2.1 (.int .i64 (.ofNat 2)) fun v7 =>
pLoad1 h1 s0.2.1 fun v8 =>
pIdxS v8 s0.1 1 fun v9 =>
pLoad1 h1 v9 fun v10 =>
pCall c (.fn 205 [] []) [v6, v7, v10] h1 fun _ h12 =>
pLoad1 h12 s0.2.1 fun v13 =>
pIdxS v13 s0.1 1 fun v14 =>
pStore h12 v14 s0.2.2.2.1 1 fun h15 =>
some ((.tup []), h15)) fun j2 =>
pLoad1 h a1 fun v16 =>
pNil v16 fun v17 =>
pFieldA v17 0 fun v18 =>
pLoad1 h v18 fun v19 =>
pInt .add a0 (.int .i64 (.ofNat 0)) fun v20 =>
pCall c (.fn 207 [] []) [v19, v20] h fun v21 h22 =>
pLoad1 h22 a2 fun v23 =>
pCall c (.fn 256 [] []) [v21, v23] h22 fun v24 h25 =>
pChk a2 none v23 h h22 h.nx <|
j2 (v24, a3, a1, a0, ()) h25
theorem S258_eq (c : CV) (a0 a1 a2 a3 : AV) (h : AH) : enterK Tryz.prog NN P258 c 258 [a0, a1, a2, a3] h = S258 c a0 a1 a2 a3 h := by kernel_rfl
def W258 (c : CV) (l : List AV) (h : AH) : R := match l with | [a0, a1, a2, a3] => S258 c a0 a1 a2 a3 h | _ => none
theorem W258_ok : WOk Tryz.prog 258 W258 := by
  intro c l h r e
  unfold W258 at e
  split at e
  · exact ⟨P258, by rw [S258_eq]; exact e⟩
  · cases e
/- quietus/queue.Push$1 -/
def P259 : Pl := (.n none .z (.n (some [5, 4, 2, 0]) .z (.n none .z (.n none .z (.n none .z (.n (some [6, 4, 0]) .z .z))))))
def S259 (c : CV) (a0 a1 a2 : AV) (h : AH) : R :=
pLoad1 h a1 fun v0 =>
pCall c (.fn 254 [] []) [a0, v0] h fun v1 h2 =>
joinC (α := AV × AV × AV × AV × Unit → AH → List Nat → R) (fun s3 h4 d5 =>
pCall c (.fn 203 [] []) [s3.2.2.2.1, (.int .i64 (.ofNat 2))] h4 fun v7 h8 =>
pInt .add v7 (.int .i64 (.ofNat 0)) fun v9 =>
pLoad1 h8 s3.2.2.1 fun v10 =>
pCall c (.fn 204 [] []) [s3.2.2.2.1, v9, v10] h8 fun _ h12 =>
pInt .add v7 (.int .i64 (.ofNat 1)) fun v13 =>
pCall c (.fn 205 [] []) [s3.2.2.2.1, v13, (.int .i64 (.ofNat 0))] h12 fun _ h15 =>
joinC (α := AV × AV × AV × Unit → AH → List Nat → R) (fun s16 h17 d18 =>
pInt .add s16.2.1 (.int .i64 (.ofNat 1)) fun v20 =>
pCall c (.fn 205 [] []) [s16.2.2.1, v20, s16.1] h17 fun _ h22 =>
pLeave d18 h22 fun h23 =>
some ((.tup []), h23)) fun j19 =>
pInt .neq s3.1 (.int .i64 (.ofNat 0)) fun v24 =>
pCond v24 (
pInt .add s3.2.1 (.int .i64 (.ofNat 1)) fun v25 =>
pCall c (.fn 254 [] []) [s3.2.2.2.1, v25] h15 fun v26 h27 =>
pInt .add v26 (.int .i64 (.ofNat 1)) fun v28 =>
pCall c (.fn 205 [] []) [s3.2.2.2.1, v28, v7] h27 fun _ h30 =>
j19 (v7, s3.2.1, s3.2.2.2.1, ()) h30 d5) (
pInt .add s3.2.1 (.int .i64 (.ofNat 0)) fun v31 =>
pCall c (.fn 205 [] []) [s3.2.2.2.1, v31, v7] h15 fun _ h33 =>
j19 (v7, s3.2.1, s3.2.2.2.1, ()) h33 d5)) fun j6 =>
pInt .neq v1 (.int .i64 (.ofNat 0)) fun v34 =>
pCond v34 (
pInt .add v1 (.int .i64 (.ofNat 0)) fun v35 =>
pCall c (.fn 254 [] []) [a0, v35] h2 fun v36 h37 =>
j6 (v36, v1, a2, a0, ()) h37 []) (
pCall c (.fn 201 [] []) [a0] h2 fun v38 h39 =>
pCond v38 (
pCall c (.fn 203 [] []) [a0, (.int .i64 (.ofNat 2))] h39 fun v40 h41 =>
pLoad1 h41 a1 fun v42 =>
pCall c (.fn 205 [] []) [a0, v42, v40] h41 fun _ h44 =>
j6 ((.int .i64 (.ofNat 0)), v40, a2, a0, ()) h44 []) (
j6 ((.int .i64 (.ofNat 0)), v1, a2, a0, ()) h39 []))
theorem S259_eq (c : CV) (a0 a1 a2 : AV) (h : AH) : enterK Tryz.prog NN P259 c 259 [a0, a1, a2] h = S259 c a0 a1 a2 h := by kernel_rfl
def W259 (c : CV) (l : List AV) (h : AH) : R := match l with | [a0, a1, a2] => S259 c a0 a1 a2 h | _ => none
theorem W259_ok : WOk Tryz.prog 259 W259 := by
  intro c l h r e
  unfold W259 at e
  split at e
  · exact ⟨P259, by rw [S259_eq]; exact e⟩
  · cases e
/- quietus/queue.Take$1 -/
def P260 : Pl := .z
def S260 (c : CV) (a0 a1 a2 a3 : AV) (h : AH) : R :=
pLoad1 h a1 fun v0 =>
pCall c (.fn 254 [] []) [a0, v0] h fun v1 h2 =>
pInt .eql v1 (.int .i64 (.ofNat 0)) fun v3 =>
pCond v3 (
some ((.tup []), h2)) (
pInt .add v1 (.int .i64 (.ofNat 0)) fun v4 =>
pCall c (.fn 254 [] []) [a0, v4] h2 fun v5 h6 =>
pInt .eql v5 (.int .i64 (.ofNat 0)) fun v7 =>
pCond v7 (
some ((.tup []), h6)) (
pInt .add v5 (.int .i64 (.ofNat 0)) fun v8 =>
pCall c (.fn 207 [] []) [a0, v8] h6 fun v9 h10 =>
pStore h10 a2 v9 1 fun h11 =>
pStore h11 a3 (.bool true) 1 fun h12 =>
pInt .add v1 (.int .i64 (.ofNat 0)) fun v13 =>
pInt .add v5 (.int .i64 (.ofNat 1)) fun v14 =>
pCall c (.fn 207 [] []) [a0, v14] h12 fun v15 h16 =>
pCall c (.fn 204 [] []) [a0, v13, v15] h16 fun _ h18 =>
pCall c (.fn 208 [] []) [a0, v5] h18 fun _ h20 =>
some ((.tup []), h20)))
theorem S260_eq (c : CV) (a0 a1 a2 a3 : AV) (h : AH) : enterK Tryz.prog NN P260 c 260 [a0, a1, a2, a3] h = S260 c a0 a1 a2 a3 h := by kernel_rfl
def W260 (c : CV) (l : List AV) (h : AH) : R := match l with | [a0, a1, a2, a3] => S260 c a0 a1 a2 a3 h | _ => none
theorem W260_ok : WOk Tryz.prog 260 W260 := by
  intro c l h r e
  unfold W260 at e
  split at e
  · exact ⟨P260, by rw [S260_eq]; exact e⟩
  · cases e
/- (*quietus/tree.tree).child -/
def P261 : Pl := (.n none .z (.n none .z (.n none .z (.n none (.r [[6]]) .z))))
def S261 (c : CV) (a0 a1 a2 : AV) (h : AH) : R :=
pInt .eql a1 (.int .i64 (.ofNat 0)) fun v0 =>
pCond v0 (
pNil a0 fun v1 =>
pFieldA v1 0 fun v2 =>
pLoad1 h v2 fun v3 =>
pCall c (.fn 255 [] []) [v3, (.int .i64 (.ofNat 2))] h fun _ h5 =>
some ((.int .i64 (.ofNat 0)), h5)) (
pInt .eql a2 (.int .i64 (.ofNat 1)) fun v6 =>
pCond v6 (
pNil a0 fun v7 =>
pFieldA v7 0 fun v8 =>
pLoad1 h v8 fun v9 =>
pInt .add a1 (.int .i64 (.ofNat 3)) fun v10 =>
pCall c (.fn 254 [] []) [v9, v10] h fun v11 h12 =>
some (v11, h12)) (
joinC (α := AV × Unit → AH → R) (fun s13 h14 =>
some (s13.1, h14)) fun j15 =>
pNil a0 fun v16 =>
pFieldA v16 0 fun v17 =>
pLoad1 h v17 fun v18 =>
pNil a0 fun v19 =>
pFieldA v19 0 fun v20 =>
pLoad1 h v20 fun v21 =>
pInt .add a1 (.int .i64 (.ofNat 2)) fun v22 =>
pCall c (.fn 207 [] []) [v21, v22] h fun v23 h24 =>
pShift .shr v23 (.int .u64 (.ofNat 1)) fun v25 =>
pCall c (.fn 275 [] []) [v18, v25] h24 fun v26 h27 =>
pChk v17 none v18 h h24 h.nx <|
j15 (v26, ()) h27))
theorem S261_eq (c : CV) (a0 a1 a2 : AV) (h : AH) : enterK Tryz.prog NN P261 c 261 [a0, a1, a2] h = S261 c a0 a1 a2 h := by kernel_rfl
def W261 (c : CV) (l : List AV) (h : AH) : R := match l with | [a0, a1, a2] => S261 c a0 a1 a2 h | _ => none
theorem W261_ok : WOk Tryz.prog 261 W261 := by
  intro c l h r e
  unfold W261 at e
  split at e
  · exact ⟨P261, by rw [S261_eq]; exact e⟩
  · cases e
/- (*quietus/tree.tree).hang -/
def P262 : Pl := (.n none .z (.r [[]]))
def S262 (c : CV) (a0 a1 a2 a3 : AV) (h : AH) : R :=
pInt .eql a2 (.int .i64 (.ofNat 1)) fun v0 =>
pCond v0 (
pNil a0 fun v1 =>
pFieldA v1 0 fun v2 =>
pLoad1 h v2 fun v3 =>
pInt .add a1 (.int .i64 (.ofNat 3)) fun v4 =>
pCall c (.fn 205 [] []) [v3, v4, a3] h fun _ h6 =>
some ((.tup []), h6)) (
joinC (α := Unit → AH → R) (fun _ h8 =>
some ((.tup []), h8)) fun j9 =>
pNil a0 fun v10 =>
pFieldA v10 0 fun v11 =>
pLoad1 h v11 fun v12 =>
pInt .add a1 (.int .i64 (.ofNat 2)) fun v13 =>
pConvI .u64 a3 fun v14 =>
pShift .shl v14 (.int .u64 (.ofNat 1)) fun v15 =>
pNil a0 fun v16 =>
pFieldA v16 0 fun v17 =>
pLoad1 h v17 fun v18 =>
pInt .add a1 (.int .i64 (.ofNat 2)) fun v19 =>
pCall c (.fn 207 [] []) [v18, v19] h fun v20 h21 =>
pInt .and v20 (.int .u64 (.ofNat 1)) fun v22 =>
pInt .or v15 v22 fun v23 =>
pCall c (.fn 204 [] []) [v12, v13, v23] h21 fun _ h25 =>
pChk v11 none v12 h h21 h.nx <|
j9 (()) h25)
theorem S262_eq (c : CV) (a0 a1 a2 a3 : AV) (h : AH) : enterK Tryz.prog NN P262 c 262 [a0, a1, a2, a3] h = S262 c a0 a1 a2 a3 h := by kernel_rfl
def W262 (c : CV) (l : List AV) (h : AH) : R := match l with | [a0, a1, a2, a3] => S262 c a0 a1 a2 a3 h | _ => none
theorem W262_ok : WOk Tryz.prog 262 W262 := by
  intro c l h r e
  unfold W262 at e
  split at e
  · exact ⟨P262, by rw [S262_eq]; exact e⟩
  · cases e
/- (*quietus/tree.tree).red -/
def P263 : Pl := (.n none .z (.n none (.r [[16, 7]]) .z))
def S263 (c : CV) (a0 a1 : AV) (h : AH) : R :=
pInt .neq a1 (.int .i64 (.ofNat 0)) fun v0 =>
joinC (α := AV × AV × Unit → AH → R) (fun s1 h2 =>
pPick s1.2.1 s1.1 (.bool false) fun v4 =>
some (v4, h2)) fun j3 =>
pWant v0 true (
pNil a0 fun v5 =>
pFieldA v5 0 fun v6 =>
pLoad1 h v6 fun v7 =>
pInt .add a1 (.int .i64 (.ofNat 2)) fun v8 =>
pCall c (.fn 207 [] []) [v7, v8] h fun v9 h10 =>
pInt .and v9 (.int .u64 (.ofNat 1)) fun v11 =>
pInt .eql v11 (.int .u64 (.ofNat 1)) fun v12 =>
j3 (v12, v0, ()) h10) (
j3 (.undef, v0, ()) h)
theorem S263_eq (c : CV) (a0 a1 : AV) (h : AH) : enterK Tryz.prog NN P263 c 263 [a0, a1] h = S263 c a0 a1 h := by kernel_rfl
def W263 (c : CV) (l : List AV) (h : AH) : R := match l with | [a0, a1] => S263 c a0 a1 h | _ => none
theorem W263_ok : WOk Tryz.prog 263 W263 := by
  intro c l h r e
  unfold W263 at e
  split at e
  · exact ⟨P263, by rw [S263_eq]; exact e⟩
  · cases e
/- (*quietus/tree.tree).straight -/
def P264 : Pl := (.n none .z (.n (some [5, 0]) (.n none .z (.n none (.r [[5, 0]]) .z)) .z))
def S264 (c : CV) (a0 a1 a2 : AV) (h : AH) : R :=
pBox h 298 a1 fun v0 h1 =>
pBox h1 298 a2 fun v2 h3 =>
joinC (α := AV × AV × Unit → AH → List Nat → R) (fun s4 h5 d6 =>
pFieldA s4.1 0 fun v8 =>
pLoad1 h5 v8 fun v9 =>
pFieldA s4.1 1 fun v10 =>
pLoad1 h5 v10 fun v11 =>
pInt .sub (.int .i64 (.ofNat 1)) v11 fun v12 =>
pCall c (.fn 276 [] []) [s4.2.1, v9, v12] h5 fun v13 h14 =>
pCall c (.fn 265 [] []) [s4.2.1, v13, (.bool false)] h14 fun _ h16 =>
pFieldA s4.1 0 fun v17 =>
pLoad1 h16 v17 fun v18 =>
pCall c (.fn 265 [] []) [s4.2.1, v18, (.bool true)] h16 fun _ h20 =>
pNil s4.2.1 fun v21 =>
pFieldA v21 2 fun v22 =>
pLoad1 h20 v22 fun v23 =>
pLenS v23 fun v24 =>
pInt .sub v24 (.int .i64 (.ofNat 2)) fun v25 =>
pCall c (.fn 223 [] []) [s4.2.1, v25, v13] h20 fun _ h27 =>
pLeave d6 h27 fun h28 =>
some ((.tup []), h28)) fun j7 =>
pFieldA v0 1 fun v29 =>
pLoad1 h3 v29 fun v30 =>
pFieldA v2 1 fun v31 =>
pLoad1 h3 v31 fun v32 =>
pInt .neq v30 v32 fun v33 =>
pCond v33 (
joinC (α := AV × AV × Unit → AH → R) (fun s34 h35 =>
j7 (s34.1, s34.2.1, ()) h35 []) fun j36 =>
pFieldA v2 0 fun v37 =>
pLoad1 h3 v37 fun v38 =>
pFieldA v2 1 fun v39 =>
pLoad1 h3 v39 fun v40 =>
pFieldA v0 0 fun v41 =>
pLoad1 h3 v41 fun v42 =>
pFieldA v2 1 fun v43 =>
pLoad1 h3 v43 fun v44 =>
pCall c (.fn 276 [] []) [a0, v42, v44] h3 fun v45 h46 =>
pCall c (.fn 262 [] []) [a0, v38, v40, v45] h46 fun _ h48 =>
pChk v39 none v40 h3 h46 h3.nx <|
pChk v37 none v38 h3 h46 h3.nx <|
j36 (v2, a0, ()) h48) (
j7 (v2, a0, ()) h3 [])
theorem S264_eq (c : CV) (a0 a1 a2 : AV) (h : AH) : enterK Tryz.prog NN P264 c 264 [a0, a1, a2] h = S264 c a0 a1 a2 h := by kernel_rfl
def W264 (c : CV) (l : List AV) (h : AH) : R := match l with | [a0, a1, a2] => S264 c a0 a1 a2 h | _ => none
theorem W264_ok : WOk Tryz.prog 264 W264 := by
  intro c l h r e
  unfold W264 at e
  split at e
  · exact ⟨P264, by rw [S264_eq]; exact e⟩
  · cases e
/- (*quietus/tree.tree).paint -/
def P265 : Pl := .z
def S265 (c : CV) (a0 a1 a2 : AV) (h : AH) : R :=
pInt .eql a1 (.int .i64 (.ofNat 0)) fun v0 =>
pCond v0 (
pNil a0 fun v1 =>
pFieldA v1 0 fun v2 =>
pLoad1 h v2 fun v3 =>
pCall c (.fn 255 [] []) [v3, (.int .i64 (.ofNat 2))] h fun _ h5 =>
some ((.tup []), h5)) (
pNil a0 fun v6 =>
pFieldA v6 0 fun v7 =>
pLoad1 h v7 fun v8 =>
pInt .add a1 (.int .i64 (.ofNat 2)) fun v9 =>
pCall c (.fn 207 [] []) [v8, v9] h fun v10 h11 =>
pInt .and v10 (.int .u64 (.ofNat 1)) fun v12 =>
pInt .eql v12 (.int .u64 (.ofNat 1)) fun v13 =>
pEq .bool true v13 a2 fun v14 =>
pCond v14 (
pNil a0 fun v15 =>
pFieldA v15 0 fun v16 =>
pLoad1 h11 v16 fun v17 =>
pInt .add a1 (.int .i64 (.ofNat 2)) fun v18 =>
pInt .xor v10 (.int .u64 (.ofNat 1)) fun v19 =>
pCall c (.fn 204 [] []) [v17, v18, v19] h11 fun _ h21 =>
some ((.tup []), h21)) (
some ((.tup []), h11)))
theorem S265_eq (c : CV) (a0 a1 a2 : AV) (h : AH) : enterK Tryz.prog NN P265 c 265 [a0, a1, a2] h = S265 c a0 a1 a2 h := by kernel_rfl
def W265 (c : CV) (l : List AV) (h : AH) : R := match l with | [a0, a1, a2] => S265 c a0 a1 a2 h | _ => none
theorem W265_ok : WOk Tryz.prog 265 W265 := by
  intro c l h r e
  unfold W265 at e
  split at e
  · exact ⟨P265, by rw [S265_eq]; exact e⟩
  · cases e
/- (*quietus/tree.tree).heir -/
def P266 : Pl := (.n none .z (.n none .z (.n none .z (.n none (.n (some [1]) (.n (some [1, 0]) .z .z) .z) .z))))
def S266 (c : CV) (a0 a1 : AV) (h : AH) : R :=
pNil a0 fun v0 =>
pFieldA v0 2 fun v1 =>
pLoad1 h v1 fun v2 =>
pBuild [(.int .i64 (.ofNat 0)), (.int .i64 (.ofNat 0))] [(0, 1, a1), (1, 1, (.int .i64 (.ofNat 1)))] fun v3 =>
pBuildS h 298 [(.int .i64 (.ofNat 0)), (.int .i64 (.ofNat 0))] 1 [(0, 2, v3)] fun v4 h5 =>
pAppend h5 298 2 v2 v4 fun v6 h7 =>
pNil a0 fun v8 =>
pFieldA v8 2 fun v9 =>
pStore h7 v9 v6 1 fun h10 =>
pCall c (.fn 261 [] []) [a0, a1, (.int .i64 (.ofNat 1))] h10 fun v11 h12 =>
joinC (α := AV × Unit → AH → List Nat → R) (fun s13 h14 d15 =>
pLeave d15 h14 fun h17 =>
some (s13.1, h17)) fun j16 =>
loopC (σ := AV × AV × Unit) NN (fun i21 s18 h19 d20 =>
pNil s18.2.1 fun v22 =>
pFieldA v22 0 fun v23 =>
pLoad1 h19 v23 fun v24 =>
pCall c (.fn 253 [] []) [v24] h19 fun v25 h26 =>
pCond v25 (
pCall c (.fn 261 [] []) [s18.2.1, s18.1, (.int .i64 (.ofNat 0))] h26 fun v27 h28 =>
pInt .eql v27 (.int .i64 (.ofNat 0)) fun v29 =>
pCond v29 (
j16 (s18.1, ()) h28 d20) (
pNil s18.2.1 fun v30 =>
pFieldA v30 2 fun v31 =>
pLoad1 h28 v31 fun v32 =>
pBuild [(.int .i64 (.ofNat 0)), (.int .i64 (.ofNat 0))] [(0, 1, s18.1), (1, 1, (.int .i64 (.ofNat 0)))] fun v33 =>
pBuildS h28 298 [(.int .i64 (.ofNat 0)), (.int .i64 (.ofNat 0))] 1 [(0, 2, v33)] fun v34 h35 =>
pAppend h35 298 2 v32 v34 fun v36 h37 =>
pNil s18.2.1 fun v38 =>
pFieldA v38 2 fun v39 =>
pStore h37 v39 v36 1 fun h40 =>
i21 (v27, s18.2.1, ()) h40 d20)) (
j16 (s18.1, ()) h26 d20)) (v11, a0, ()) h12 []
theorem S266_eq (c : CV) (a0 a1 : AV) (h : AH) : enterK Tryz.prog NN P266 c 266 [a0, a1] h = S266 c a0 a1 h := by kernel_rfl
def W266 (c : CV) (l : List AV) (h : AH) : R := match l with | [a0, a1] => S266 c a0 a1 h | _ => none
theorem W266_ok : WOk Tryz.prog 266 W266 := by
  intro c l h r e
  unfold W266 at e
  split at e
  · exact ⟨P266, by rw [S266_eq]; exact e⟩
  · cases e
/- (*quietus/tree.tree).lowered -/
def P267 : Pl := (.n none (.n (some [0]) (.n none (.n none (.r [[16, 11, 0]]) .z) (.n (some [0]) (.n none .z (.n none .z (.n none .z (.n none .z (.n none (.n none (.r [[90, 85, 4, 3, 2, 0]]) .z) .z))))) .z)) .z) .z)
def S267 (c : CV) (a0 : AV) (h : AH) : R :=
loopC (σ := AV × Unit) NN (fun i3 s0 h1 d2 =>
pNil s0.1 fun v4 =>
pFieldA v4 2 fun v5 =>
pLoad1 h1 v5 fun v6 =>
pLenS v6 fun v7 =>
pInt .gtr v7 (.int .i64 (.ofNat 0)) fun v8 =>
joinC (α := AV × AV × AV × Unit → AH → R) (fun s9 h10 =>
pPick s9.2.1 s9.1 (.bool false) fun v12 =>
pCond v12 (
joinC (α := AV × Unit → AH → List Nat → R) (fun s13 h14 d15 =>
i3 (s13.1, ()) h14 d15) fun j16 =>
pNil s9.2.2.1 fun v17 =>
pFieldA v17 2 fun v18 =>
pLoad1 h10 v18 fun v19 =>
pLenS v19 fun v20 =>
pNil s9.2.2.1 fun v21 =>
pFieldA v21 2 fun v22 =>
pLoad1 h10 v22 fun v23 =>
pInt .sub v20 (.int .i64 (.ofNat 1)) fun v24 =>
pIdxS v23 v24 2 fun v25 =>
pLoadN h10 v25 2 fun v26 =>
pBox h10 298 (.agg [(.int .i64 (.ofNat 0)), (.int .i64 (.ofNat 0))]) fun v27 h28 =>
pStore h28 v27 v26 2 fun h29 =>
pFieldA v27 0 fun v30 =>
pLoad1 h29 v30 fun v31 =>
pFieldA v27 1 fun v32 =>
pLoad1 h29 v32 fun v33 =>
pInt .sub (.int .i64 (.ofNat 1)) v33 fun v34 =>
pCall c (.fn 261 [] []) [s9.2.2.1, v31, v34] h29 fun v35 h36 =>
pCall c (.fn 263 [] []) [s9.2.2.1, v35] h36 fun v37 h38 =>
pCond v37 (
pFieldA v27 0 fun v39 =>
pLoad1 h38 v39 fun v40 =>
pFieldA v27 1 fun v41 =>
pLoad1 h38 v41 fun v42 =>
pCall c (.fn 276 [] []) [s9.2.2.1, v40, v42] h38 fun _ h44 =>
pCall c (.fn 265 [] []) [s9.2.2.1, v35, (.bool false)] h44 fun _ h46 =>
pFieldA v27 0 fun v47 =>
pLoad1 h46 v47 fun v48 =>
pCall c (.fn 265 [] []) [s9.2.2.1, v48, (.bool true)] h46 fun _ h50 =>
pInt .sub v20 (.int .i64 (.ofNat 1)) fun v51 =>
pCall c (.fn 223 [] []) [s9.2.2.1, v51, v35] h50 fun _ h53 =>
pNil s9.2.2.1 fun v54 =>
pFieldA v54 2 fun v55 =>
pLoad1 h53 v55 fun v56 =>
pInt .sub v20 (.int .i64 (.ofNat 1)) fun v57 =>
pFieldA v27 1 fun v58 =>
pLoad1 h53 v58 fun v59 =>
pBuild [(.int .i64 (.ofNat 0)), (.int .i64 (.ofNat 0))] [(0, 1, v35), (1, 1, v59)] fun v60 =>
pIdxS v56 v57 2 fun v61 =>
pStore h53 v61 v60 2 fun h62 =>
pNil s9.2.2.1 fun v63 =>
pFieldA v63 2 fun v64 =>
pLoad1 h62 v64 fun v65 =>
pLoadN h62 v27 2 fun v66 =>
pBuildS h62 298 [(.int .i64 (.ofNat 0)), (.int .i64 (.ofNat 0))] 1 [(0, 2, v66)] fun v67 h68 =>
pAppend h68 298 2 v65 v67 fun v69 h70 =>
pNil s9.2.2.1 fun v71 =>
pFieldA v71 2 fun v72 =>
pStore h70 v72 v69 1 fun h73 =>
j16 (s9.2.2.1, ()) h73 d2) (
pCall c (.fn 261 [] []) [s9.2.2.1, v35, (.int .i64 (.ofNat 0))] h38 fun v74 h75 =>
pCall c (.fn 263 [] []) [s9.2.2.1, v74] h75 fun v76 h77 =>
joinC (α := AV × AV × AV × AV × AV × AV × Unit → AH → R) (fun s78 h79 =>
pPick s78.2.1 (.bool true) s78.1 fun v81 =>
pCond v81 (
pLoadN h79 s78.2.2.2.1 2 fun v82 =>
pCall c (.fn 277 [] []) [s78.2.2.2.2.2.1, v82, s78.2.2.1] h79 fun _ h84 =>
pLeave d2 h84 fun h85 =>
some ((.tup []), h85)) (
pCall c (.fn 265 [] []) [s78.2.2.2.2.2.1, s78.2.2.1, (.bool true)] h79 fun _ h87 =>
pFieldA s78.2.2.2.1 0 fun v88 =>
pLoad1 h87 v88 fun v89 =>
pCall c (.fn 263 [] []) [s78.2.2.2.2.2.1, v89] h87 fun v90 h91 =>
pCond v90 (
pFieldA s78.2.2.2.1 0 fun v92 =>
pLoad1 h91 v92 fun v93 =>
pCall c (.fn 265 [] []) [s78.2.2.2.2.2.1, v93, (.bool false)] h91 fun _ h95 =>
pLeave d2 h95 fun h96 =>
some ((.tup []), h96)) (
pNil s78.2.2.2.2.2.1 fun v97 =>
pFieldA v97 2 fun v98 =>
pLoad1 h91 v98 fun v99 =>
pInt .sub s78.2.2.2.2.1 (.int .i64 (.ofNat 1)) fun v100 =>
pSlice h91 298 2 v99 none (some v100) fun v101 =>
pNil s78.2.2.2.2.2.1 fun v102 =>
pFieldA v102 2 fun v103 =>
pStore h91 v103 v101 1 fun h104 =>
j16 (s78.2.2.2.2.2.1, ()) h104 d2))) fun j80 =>
pWant v76 false (
pCall c (.fn 261 [] []) [s9.2.2.1, v35, (.int .i64 (.ofNat 1))] h77 fun v105 h106 =>
pCall c (.fn 263 [] []) [s9.2.2.1, v105] h106 fun v107 h108 =>
j80 (v107, v76, v35, v27, v20, s9.2.2.1, ()) h108) (
j80 (.undef, v76, v35, v27, v20, s9.2.2.1, ()) h77))) (
pLeave d2 h10 fun h109 =>
some ((.tup []), h109))) fun j11 =>
pWant v8 true (
pNil s0.1 fun v110 =>
pFieldA v110 0 fun v111 =>
pLoad1 h1 v111 fun v112 =>
pCall c (.fn 253 [] []) [v112] h1 fun v113 h114 =>
j11 (v113, v8, s0.1, ()) h114) (
j11 (.undef, v8, s0.1, ()) h1)) (a0, ()) h []
theorem S267_eq (c : CV) (a0 : AV) (h : AH) : enterK Tryz.prog NN P267 c 267 [a0] h = S267 c a0 h := by kernel_rfl
def W267 (c : CV) (l : List AV) (h : AH) : R := match l with | [a0] => S267 c a0 h | _ => none
theorem W267_ok : WOk Tryz.prog 267 W267 := by
  intro c l h r e
  unfold W267 at e
  split at e
  · exact ⟨P267, by rw [S267_eq]; exact e⟩
  · cases e
/- quietus/arena.Size -/
def P268 : Pl := (.n none .z (.n none (.n none (.r [[7, 5, 0]]) .z) .z))
def S268 (_ : CV) (a0 : AV) (h : AH) : R :=
pInt .lss a0 (.int .i64 (.ofNat 1)) fun v0 =>
joinC (α := AV × AV × AV × Unit → AH → R) (fun s1 h2 =>
pPick s1.2.1 (.bool true) s1.1 fun v4 =>
pCond v4 (
some ((.int .i64 (.ofNat 0)), h2)) (
pShift .shl (.int .i64 (.ofNat 1)) s1.2.2.1 fun v5 =>
some (v5, h2))) fun j3 =>
pWant v0 false (
pInt .gtr a0 (.int .i64 (.ofNat 4)) fun v6 =>
j3 (v6, v0, a0, ()) h) (
j3 (.undef, v0, a0, ()) h)
theorem S268_eq (c : CV) (a0 : AV) (h : AH) : enterK Tryz.prog NN P268 c 268 [a0] h = S268 c a0 h := by kernel_rfl
def W268 (c : CV) (l : List AV) (h : AH) : R := match l with | [a0] => S268 c a0 h | _ => none
theorem W268_ok : WOk Tryz.prog 268 W268 := by
  intro c l h r e
  unfold W268 at e
  split at e
  · exact ⟨P268, by rw [S268_eq]; exact e⟩
  · cases e
/- (*quietus/levels.Levels).Free -/
def P269 : Pl := .z
def S269 (c : CV) (a0 a1 : AV) (h : AH) : R :=
pCall c (.fn 178 [] []) [a0] h fun v0 h1 =>
pNil v0 fun v2 =>
pFieldA v2 1 fun v3 =>
pLoad1 h1 v3 fun v4 =>
pBuildS h1 3 [(.int .i64 (.ofNat 0))] 1 [(0, 1, a1)] fun v5 h6 =>
pAppend h6 3 1 v4 v5 fun v7 h8 =>
pNil v0 fun v9 =>
pFieldA v9 1 fun v10 =>
pStore h8 v10 v7 1 fun h11 =>
some ((.tup []), h11)
theorem S269_eq (c : CV) (a0 a1 : AV) (h : AH) : enterK Tryz.prog NN P269 c 269 [a0, a1] h = S269 c a0 a1 h := by kernel_rfl
def W269 (c : CV) (l : List AV) (h : AH) : R := match l with | [a0, a1] => S269 c a0 a1 h | _ => none
theorem W269_ok : WOk Tryz.prog 269 W269 := by
  intro c l h r e
  unfold W269 at e
  split at e
  · exact ⟨P269, by rw [S269_eq]; exact e⟩
  · cases e
/- (*quietus/levels.Levels).Open -/
def P270 : Pl := (.n none .z (.n none .z (.n none (.r [[]]) .z)))
def S270 (c : CV) (a0 : AV) (h : AH) : R :=
pNil a0 fun v0 =>
pFieldA v0 1 fun v1 =>
pLoad1 h v1 fun v2 =>
pLenS v2 fun v3 =>
pInt .geq v3 (.int .i64 (.ofNat 6)) fun v4 =>
pCond v4 (
some ((.int .i64 (.ofNat 9)), h)) (
joinC (α := Unit → AH → R) (fun _ h6 =>
some ((.int .i64 (.ofNat 0)), h6)) fun j7 =>
pNil a0 fun v8 =>
pFieldA v8 1 fun v9 =>
pLoad1 h v9 fun v10 =>
pCall c (.fn 97 [] []) [] h fun v11 h12 =>
pBuildS h12 167 [.nilp] 1 [(0, 1, v11)] fun v13 h14 =>
pAppend h14 167 1 v10 v13 fun v15 h16 =>
pNil a0 fun v17 =>
pFieldA v17 1 fun v18 =>
pStore h16 v18 v15 1 fun h19 =>
pChk v9 none v10 h h12 h.nx <|
j7 (()) h19)
theorem S270_eq (c : CV) (a0 : AV) (h : AH) : enterK Tryz.prog NN P270 c 270 [a0] h = S270 c a0 h := by kernel_rfl
def W270 (c : CV) (l : List AV) (h : AH) : R := match l with | [a0] => S270 c a0 h | _ => none
theorem W270_ok : WOk Tryz.prog 270 W270 := by
  intro c l h r e
  unfold W270 at e
  split at e
  · exact ⟨P270, by rw [S270_eq]; exact e⟩
  · cases e
/- (*quietus/writes.Writes).Len -/
def P271 : Pl := .z
def S271 (_ : CV) (a0 : AV) (h : AH) : R :=
pNil a0 fun v0 =>
pFieldA v0 1 fun v1 =>
pLoad1 h v1 fun v2 =>
pLenS v2 fun v3 =>
some (v3, h)
theorem S271_eq (c : CV) (a0 : AV) (h : AH) : enterK Tryz.prog NN P271 c 271 [a0] h = S271 c a0 h := by kernel_rfl
def W271 (c : CV) (l : List AV) (h : AH) : R := match l with | [a0] => S271 c a0 h | _ => none
theorem W271_ok : WOk Tryz.prog 271 W271 := by
  intro c l h r e
  unfold W271 at e
  split at e
  · exact ⟨P271, by rw [S271_eq]; exact e⟩
  · cases e
/- slices.order2Ordered[int] -/
def P272 : Pl := .z
def S272 (c : CV) (a0 a1 a2 a3 : AV) (h : AH) : R :=
pIdxS a0 a2 1 fun v0 =>
pLoad1 h v0 fun v1 =>
pIdxS a0 a1 1 fun v2 =>
pLoad1 h v2 fun v3 =>
pCall c (.fn 187 [] []) [v1, v3] h fun v4 h5 =>
pCond v4 (
pNil a3 fun v6 =>
pLoad1 h5 v6 fun v7 =>
pInt .add v7 (.int .i64 (.ofNat 1)) fun v8 =>
pNil a3 fun v9 =>
pStore h5 v9 v8 1 fun h10 =>
some ((.tup [a2, a1]), h10)) (
some ((.tup [a1, a2]), h5))
theorem S272_eq (c : CV) (a0 a1 a2 a3 : AV) (h : AH) : enterK Tryz.prog NN P272 c 272 [a0, a1, a2, a3] h = S272 c a0 a1 a2 a3 h := by kernel_rfl
def W272 (c : CV) (l : List AV) (h : AH) : R := match l with | [a0, a1, a2, a3] => S272 c a0 a1 a2 a3 h | _ => none
theorem W272_ok : WOk Tryz.prog 272 W272 := by
  intro c l h r e
  unfold W272 at e
  split at e
  · exact ⟨P272, by rw [S272_eq]; exact e⟩
  · cases e
/- (*quietus/view.View).Known -/
def P273 : Pl := (.n none .z (.n none .z (.n none (.n none .z (.n none (.n (some [17, 16, 15, 3, 0]) .z .z) .z)) .z)))
def S273 (_ : CV) (a0 : AV) (h : AH) : R :=
pNil a0 fun v0 =>
pFieldA v0 1 fun v1 =>
pLoad1 h v1 fun v2 =>
pLenS v2 fun v3 =>
pMake h 153 [(.int .i64 (.ofNat 0)), (.int .u64 (.ofNat 0))] (.int .i64 (.ofNat 0)) v3 fun v4 h5 =>
pNil a0 fun v6 =>
pFieldA v6 1 fun v7 =>
pLoad1 h5 v7 fun v8 =>
pLenS v8 fun v9 =>
loopC (σ := AV × AV × AV × AV × AV × Unit) NN (fun i13 s10 h11 d12 =>
pInt .lss s10.1 s10.2.1 fun v14 =>
pCond v14 (
pIdxS s10.2.2.1 s10.1 1 fun v15 =>
pLoad1 h11 v15 fun v16 =>
pNil s10.2.2.2.2.1 fun v17 =>
pFieldA v17 0 fun v18 =>
pLoad1 h11 v18 fun v19 =>
pIdxS v19 v16 2 fun v20 =>
pFieldA v20 0 fun v21 =>
pLoad1 h11 v21 fun v22 =>
pBuild [(.int .i64 (.ofNat 0)), (.int .u64 (.ofNat 0))] [(0, 1, v16), (1, 1, v22)] fun v23 =>
pBuildS h11 153 [(.int .i64 (.ofNat 0)), (.int .u64 (.ofNat 0))] 1 [(0, 2, v23)] fun v24 h25 =>
pAppend h25 153 2 s10.2.2.2.1 v24 fun v26 h27 =>
pInt .add s10.1 (.int .i64 (.ofNat 1)) fun v28 =>
i13 (v28, s10.2.1, s10.2.2.1, v26, s10.2.2.2.2.1, ()) h27 d12) (
pLeave d12 h11 fun h29 =>
some (s10.2.2.2.1, h29))) ((.int .i64 (.ofNat 0)), v9, v8, v4, a0, ()) h5 []
theorem S273_eq (c : CV) (a0 : AV) (h : AH) : enterK Tryz.prog NN P273 c 273 [a0] h = S273 c a0 h := by kernel_rfl
def W273 (c : CV) (l : List AV) (h : AH) : R := match l with | [a0] => S273 c a0 h | _ => none
theorem W273_ok : WOk Tryz.prog 273 W273 := by
  intro c l h r e
  unfold W273 at e
  split at e
  · exact ⟨P273, by rw [S273_eq]; exact e⟩
  · cases e
/- (*quietus/levels.Levels).Frees -/
def P274 : Pl := (.n none .z (.n none .z (.n none (.n none .z (.n none (.n (some [11, 10, 9, 3]) .z .z) .z)) .z)))
def S274 (_ : CV) (a0 : AV) (h : AH) : R :=
pNil a0 fun v0 =>
pFieldA v0 1 fun v1 =>
pLoad1 h v1 fun v2 =>
pLenS v2 fun v3 =>
loopC (σ := AV × AV × AV × AV × Unit) NN (fun i7 s4 h5 d6 =>
pInt .lss s4.1 s4.2.1 fun v8 =>
pCond v8 (
pIdxS s4.2.2.1 s4.1 1 fun v9 =>
pLoad1 h5 v9 fun v10 =>
pNil v10 fun v11 =>
pFieldA v11 1 fun v12 =>
pLoad1 h5 v12 fun v13 =>
pAppend h5 3 1 s4.2.2.2.1 v13 fun v14 h15 =>
pInt .add s4.1 (.int .i64 (.ofNat 1)) fun v16 =>
i7 (v16, s4.2.1, s4.2.2.1, v14, ()) h15 d6) (
pLeave d6 h5 fun h17 =>
some (s4.2.2.2.1, h17))) ((.int .i64 (.ofNat 0)), v3, v2, .nils, ()) h []
theorem S274_eq (c : CV) (a0 : AV) (h : AH) : enterK Tryz.prog NN P274 c 274 [a0] h = S274 c a0 h := by kernel_rfl
def W274 (c : CV) (l : List AV) (h : AH) : R := match l with | [a0] => S274 c a0 h | _ => none
theorem W274_ok : WOk Tryz.prog 274 W274 := by
  intro c l h r e
  unfold W274 at e
  split at e
  · exact ⟨P274, by rw [S274_eq]; exact e⟩
  · cases e
/- (*quietus/draft.Draft).Name -/
def P275 : Pl := .z
def S275 (c : CV) (a0 a1 : AV) (h : AH) : R :=
pInt .geq a1 (.int .u64 (.ofNat 2147483648)) fun v0 =>
pCond v0 (
pCall c (.fn 255 [] []) [a0, (.int .i64 (.ofNat 2))] h fun _ h2 =>
some ((.int .i64 (.ofNat 0)), h2)) (
pConvI .i64 a1 fun v3 =>
some (v3, h))
theorem S275_eq (c : CV) (a0 a1 : AV) (h : AH) : enterK Tryz.prog NN P275 c 275 [a0, a1] h = S275 c a0 a1 h := by kernel_rfl
def W275 (c : CV) (l : List AV) (h : AH) : R := match l with | [a0, a1] => S275 c a0 a1 h | _ => none
theorem W275_ok : WOk Tryz.prog 275 W275 := by
  intro c l h r e
  unfold W275 at e
  split at e
  · exact ⟨P275, by rw [S275_eq]; exact e⟩
  · cases e
/- (*quietus/tree.tree).turn -/
def P276 : Pl := .z
def S276 (c : CV) (a0 a1 a2 : AV) (h : AH) : R :=
pInt .sub (.int .i64 (.ofNat 1)) a2 fun v0 =>
pCall c (.fn 261 [] []) [a0, a1, v0] h fun v1 h2 =>
pInt .sub (.int .i64 (.ofNat 1)) a2 fun v3 =>
pCall c (.fn 261 [] []) [a0, v1, a2] h2 fun v4 h5 =>
pCall c (.fn 262 [] []) [a0, a1, v3, v4] h5 fun _ h7 =>
pCall c (.fn 262 [] []) [a0, v1, a2, a1] h7 fun _ h9 =>
some (v1, h9)
theorem S276_eq (c : CV) (a0 a1 a2 : AV) (h : AH) : enterK Tryz.prog NN P276 c 276 [a0, a1, a2] h = S276 c a0 a1 a2 h := by kernel_rfl
def W276 (c : CV) (l : List AV) (h : AH) : R := match l with | [a0, a1, a2] => S276 c a0 a1 a2 h | _ => none
theorem W276_ok : WOk Tryz.prog 276 W276 := by
  intro c l h r e
  unfold W276 at e
  split at e
  · exact ⟨P276, by rw [S276_eq]; exact e⟩
  · cases e
/- (*quietus/tree.tree).lent -/
def P277 : Pl := (.n none .z (.n (some [4, 2, 0]) .z .z))
def S277 (c : CV) (a0 a1 a2 : AV) (h : AH) : R :=
pBox h 298 a1 fun v0 h1 =>
joinC (α := AV × AV × AV × Unit → AH → List Nat → R) (fun s2 h3 d4 =>
pFieldA s2.1 0 fun v6 =>
pLoad1 h3 v6 fun v7 =>
pFieldA s2.1 1 fun v8 =>
pLoad1 h3 v8 fun v9 =>
pCall c (.fn 276 [] []) [s2.2.2.1, v7, v9] h3 fun _ h11 =>
pFieldA s2.1 0 fun v12 =>
pLoad1 h11 v12 fun v13 =>
pCall c (.fn 263 [] []) [s2.2.2.1, v13] h11 fun v14 h15 =>
pCall c (.fn 265 [] []) [s2.2.2.1, s2.2.1, v14] h15 fun _ h17 =>
pFieldA s2.1 0 fun v18 =>
pLoad1 h17 v18 fun v19 =>
pCall c (.fn 265 [] []) [s2.2.2.1, v19, (.bool false)] h17 fun _ h21 =>
pFieldA s2.1 1 fun v22 =>
pLoad1 h21 v22 fun v23 =>
pInt .sub (.int .i64 (.ofNat 1)) v23 fun v24 =>
pCall c (.fn 261 [] []) [s2.2.2.1, s2.2.1, v24] h21 fun v25 h26 =>
pCall c (.fn 265 [] []) [s2.2.2.1, v25, (.bool false)] h26 fun _ h28 =>
pNil s2.2.2.1 fun v29 =>
pFieldA v29 2 fun v30 =>
pLoad1 h28 v30 fun v31 =>
pLenS v31 fun v32 =>
pInt .sub v32 (.int .i64 (.ofNat 1)) fun v33 =>
pCall c (.fn 223 [] []) [s2.2.2.1, v33, s2.2.1] h28 fun _ h35 =>
pLeave d4 h35 fun h36 =>
some ((.tup []), h36)) fun j5 =>
pFieldA v0 1 fun v37 =>
pLoad1 h1 v37 fun v38 =>
pInt .sub (.int .i64 (.ofNat 1)) v38 fun v39 =>
pCall c (.fn 261 [] []) [a0, a2, v39] h1 fun v40 h41 =>
pCall c (.fn 263 [] []) [a0, v40] h41 fun v42 h43 =>
pUn .not v42 fun v44 =>
pCond v44 (
pFieldA v0 1 fun v45 =>
pLoad1 h43 v45 fun v46 =>
pInt .sub (.int .i64 (.ofNat 1)) v46 fun v47 =>
pCall c (.fn 276 [] []) [a0, a2, v47] h43 fun v48 h49 =>
pFieldA v0 0 fun v50 =>
pLoad1 h49 v50 fun v51 =>
pFieldA v0 1 fun v52 =>
pLoad1 h49 v52 fun v53 =>
pInt .sub (.int .i64 (.ofNat 1)) v53 fun v54 =>
pCall c (.fn 262 [] []) [a0, v51, v54, v48] h49 fun _ h56 =>
pCall c (.fn 265 [] []) [a0, v48, (.bool false)] h56 fun _ h58 =>
pCall c (.fn 265 [] []) [a0, a2, (.bool true)] h58 fun _ h60 =>
j5 (v0, v48, a0, ()) h60 []) (
j5 (v0, a2, a0, ()) h43 [])
theorem S277_eq (c : CV) (a0 a1 a2 : AV) (h : AH) : enterK Tryz.prog NN P277 c 277 [a0, a1, a2] h = S277 c a0 a1 a2 h := by kernel_rfl
def W277 (c : CV) (l : List AV) (h : AH) : R := match l with | [a0, a1, a2] => S277 c a0 a1 a2 h | _ => none
theorem W277_ok : WOk Tryz.prog 277 W277 := by
  intro c l h r e
  unfold W277 at e
  split at e
  · exact ⟨P277, by rw [S277_eq]; exact e⟩
  · cases e
/- (*quietus/fetch.Fetch).By -/
def P300 : Pl := .z
def S300 (c : CV) (a0 : AV) (h : AH) : R :=
pNil a0 fun v0 =>
pFieldA v0 0 fun v1 =>
pCall c (.fn 303 [] []) [v1] h fun v2 h3 =>
some (v2, h3)
theorem S300_eq (c : CV) (a0 : AV) (h : AH) : enterK Tryz.prog NN P300 c 300 [a0] h = S300 c a0 h := by kernel_rfl
def W300 (c : CV) (l : List AV) (h : AH) : R := match l with | [a0] => S300 c a0 h | _ => none
theorem W300_ok : WOk Tryz.prog 300 W300 := by
  intro c l h r e
  unfold W300 at e
  split at e
  · exact ⟨P300, by rw [S300_eq]; exact e⟩
  · cases e
/- (*quietus/fetch.Fetch).Next -/
def P301 : Pl := .z
def S301 (c : CV) (a0 : AV) (h : AH) : R :=
pBox h 39 (.agg [(.int .i64 (.ofNat 0)), (.int .i64 (.ofNat 0)), (.int .u64 (.ofNat 0)), (.int .u64 (.ofNat 0)), (.int .u64 (.ofNat 0)), (.bool false), (.int .i64 (.ofNat 0)), (.int .u64 (.ofNat 0)), (.bool false), (.int .i64 (.ofNat 0))]) fun v0 h1 =>
pNil a0 fun v2 =>
pFieldA v2 0 fun v3 =>
pCall c (.fn 65 [] []) [v3] h1 fun v4 h5 =>
pInt .neq v4 (.int .i64 (.ofNat 0)) fun v6 =>
pCond v6 (
pBuild [(.int .i64 (.ofNat 0)), (.int .i64 (.ofNat 0)), (.int .u64 (.ofNat 0)), (.int .u64 (.ofNat 0)), (.int .u64 (.ofNat 0)), (.bool false), (.int .i64 (.ofNat 0)), (.int .u64 (.ofNat 0)), (.bool false), (.int .i64 (.ofNat 0))] [] fun v7 =>
pStore h5 v0 v7 10 fun h8 =>
pLoadN h8 v0 10 fun v9 =>
some ((.tup [v9, (.bool false)]), h8)) (
pNil a0 fun v10 =>
pFieldA v10 8 fun v11 =>
pLoad1 h5 v11 fun v12 =>
pInt .eql v12 (.int .i64 (.ofNat 1)) fun v13 =>
pCond v13 (
pNil a0 fun v14 =>
pFieldA v14 5 fun v15 =>
pLoad1 h5 v15 fun v16 =>
pBuild [(.int .i64 (.ofNat 0)), (.int .i64 (.ofNat 0)), (.int .u64 (.ofNat 0)), (.int .u64 (.ofNat 0)), (.int .u64 (.ofNat 0)), (.bool false), (.int .i64 (.ofNat 0)), (.int .u64 (.ofNat 0)), (.bool false), (.int .i64 (.ofNat 0))] [(0, 1, (.int .i64 (.ofNat 1))), (1, 1, v16)] fun v17 =>
pStore h5 v0 v17 10 fun h18 =>
pLoadN h18 v0 10 fun v19 =>
some ((.tup [v19, (.bool true)]), h18)) (
pNil a0 fun v20 =>
pFieldA v20 6 fun v21 =>
pLoad1 h5 v21 fun v22 =>
pBuild [(.int .i64 (.ofNat 0)), (.int .i64 (.ofNat 0)), (.int .u64 (.ofNat 0)), (.int .u64 (.ofNat 0)), (.int .u64 (.ofNat 0)), (.bool false), (.int .i64 (.ofNat 0)), (.int .u64 (.ofNat 0)), (.bool false), (.int .i64 (.ofNat 0))] [(0, 1, (.int .i64 (.ofNat 3))), (1, 1, v22)] fun v23 =>
pStore h5 v0 v23 10 fun h24 =>
pLoadN h24 v0 10 fun v25 =>
some ((.tup [v25, (.bool true)]), h24)))
theorem S301_eq (c : CV) (a0 : AV) (h : AH) : enterK Tryz.prog NN P301 c 301 [a0] h = S301 c a0 h := by kernel_rfl
def W301 (c : CV) (l : List AV) (h : AH) : R := match l with | [a0] => S301 c a0 h | _ => none
theorem W301_ok : WOk Tryz.prog 301 W301 := by
  intro c l h r e
  unfold W301 at e
  split at e
  · exact ⟨P301, by rw [S301_eq]; exact e⟩
  · cases e
/- (*quietus/fetch.Fetch).Tell -/
def P302 : Pl := (.n none .z (.n (some []) (.n none .z (.n none .z (.n none .z (.n none .z (.n none (.r [[41, 34, 3, 0]]) .z))))) .z))
def S302 (c : CV) (a0 a1 : AV) (h : AH) : R :=
pBox h 47 a1 fun v0 h1 =>
joinC (α := Unit → AH → List Nat → R) (fun _ h3 d4 =>
pLeave d4 h3 fun h6 =>
some ((.tup []), h6)) fun j5 =>
pNil a0 fun v7 =>
pFieldA v7 0 fun v8 =>
pLoadN h1 v0 6 fun v9 =>
pCall c (.fn 304 [] []) [v8, v9] h1 fun v10 h11 =>
pCond v10 (
j5 (()) h11 []) (
pNil a0 fun v12 =>
pFieldA v12 8 fun v13 =>
pLoad1 h11 v13 fun v14 =>
pInt .eql v14 (.int .i64 (.ofNat 1)) fun v15 =>
pCond v15 (
pFieldA v0 0 fun v16 =>
pLoad1 h11 v16 fun v17 =>
pNil a0 fun v18 =>
pFieldA v18 12 fun v19 =>
pStore h11 v19 v17 1 fun h20 =>
pNil a0 fun v21 =>
pFieldA v21 8 fun v22 =>
pStore h20 v22 (.int .i64 (.ofNat 2)) 1 fun h23 =>
j5 (()) h23 []) (
pNil a0 fun v24 =>
pFieldA v24 8 fun v25 =>
pLoad1 h11 v25 fun v26 =>
pInt .eql v26 (.int .i64 (.ofNat 2)) fun v27 =>
joinC (α := AV × AV × AV × AV × Unit → AH → R) (fun s28 h29 =>
pPick s28.2.1 s28.1 (.bool false) fun v31 =>
pCond v31 (
pNil s28.2.2.2.1 fun v32 =>
pFieldA v32 0 fun v33 =>
pCall c (.fn 305 [] []) [v33, (.int .i64 (.ofNat 2)), (.int .i64 (.ofNat 0)), (.int .i64 (.negSucc 0))] h29 fun _ h35 =>
j5 (()) h35 []) (
pFieldA s28.2.2.1 1 fun v36 =>
pLoadN h29 v36 3 fun v37 =>
pCall c (.fn 306 [] []) [s28.2.2.2.1, v37] h29 fun _ h39 =>
j5 (()) h39 [])) fun j30 =>
pWant v27 true (
pFieldA v0 1 fun v40 =>
pLoadN h11 v40 3 fun v41 =>
pNil a0 fun v42 =>
pFieldA v42 9 fun v43 =>
pLoadN h11 v43 3 fun v44 =>
pEqS [.bas .int 0, .bas .bool 1, .bas .int 2] false v41 v44 fun v45 =>
j30 (v45, v27, v0, a0, ()) h11) (
j30 (.undef, v27, v0, a0, ()) h11)))
theorem S302_eq (c : CV) (a0 a1 : AV) (h : AH) : enterK Tryz.prog NN P302 c 302 [a0, a1] h = S302 c a0 a1 h := by kernel_rfl
def W302 (c : CV) (l : List AV) (h : AH) : R := match l with | [a0, a1] => S302 c a0 a1 h | _ => none
theorem W302_ok : WOk Tryz.prog 302 W302 := by
  intro c l h r e
  unfold W302 at e
  split at e
  · exact ⟨P302, by rw [S302_eq]; exact e⟩
  · cases e
/- (*quietus/patience.Patience).By -/
def P303 : Pl := .z
def S303 (_ : CV) (a0 : AV) (h : AH) : R :=
pNil a0 fun v0 =>
pFieldA v0 3 fun v1 =>
pLoad1 h v1 fun v2 =>
some (v2, h)
theorem S303_eq (c : CV) (a0 : AV) (h : AH) : enterK Tryz.prog NN P303 c 303 [a0] h = S303 c a0 h := by kernel_rfl
def W303 (c : CV) (l : List AV) (h : AH) : R := match l with | [a0] => S303 c a0 h | _ => none
theorem W303_ok : WOk Tryz.prog 303 W303 := by
  intro c l h r e
  unfold W303 at e
  split at e
  · exact ⟨P303, by rw [S303_eq]; exact e⟩
  · cases e
/- (*quietus/patience.Patience).Stopped -/
def P304 : Pl := (.n none .z (.n (some [0]) (.n none (.r [[13, 10, 3, 0]]) .z) .z))
def S304 (c : CV) (a0 a1 : AV) (h : AH) : R :=
pBox h 47 a1 fun v0 h1 =>
joinC (α := AV × Unit → AH → List Nat → R) (fun s2 h3 d4 =>
pNil s2.1 fun v6 =>
pFieldA v6 2 fun v7 =>
pLoad1 h3 v7 fun v8 =>
pInt .neq v8 (.int .i64 (.ofNat 0)) fun v9 =>
pLeave d4 h3 fun h10 =>
some (v9, h10)) fun j5 =>
pNil a0 fun v11 =>
pFieldA v11 2 fun v12 =>
pLoad1 h1 v12 fun v13 =>
pInt .eql v13 (.int .i64 (.ofNat 0)) fun v14 =>
joinC (α := AV × AV × AV × AV × Unit → AH → R) (fun s15 h16 =>
pPick s15.2.1 s15.1 (.bool false) fun v18 =>
pCond v18 (
pFieldA s15.2.2.1 5 fun v19 =>
pLoad1 h16 v19 fun v20 =>
pCall c (.fn 305 [] []) [s15.2.2.2.1, (.int .i64 (.ofNat 4)), v20, (.int .i64 (.negSucc 0))] h16 fun _ h22 =>
j5 (s15.2.2.2.1, ()) h22 []) (
j5 (s15.2.2.2.1, ()) h16 [])) fun j17 =>
pWant v14 true (
pFieldA v0 5 fun v23 =>
pLoad1 h1 v23 fun v24 =>
pInt .neq v24 (.int .i64 (.ofNat 0)) fun v25 =>
j17 (v25, v14, v0, a0, ()) h1) (
j17 (.undef, v14, v0, a0, ()) h1)
theorem S304_eq (c : CV) (a0 a1 : AV) (h : AH) : enterK Tryz.prog NN P304 c 304 [a0, a1] h = S304 c a0 a1 h := by kernel_rfl
def W304 (c : CV) (l : List AV) (h : AH) : R := match l with | [a0, a1] => S304 c a0 a1 h | _ => none
theorem W304_ok : WOk Tryz.prog 304 W304 := by
  intro c l h r e
  unfold W304 at e
  split at e
  · exact ⟨P304, by rw [S304_eq]; exact e⟩
  · cases e
/- (*quietus/patience.Patience).Stop -/
def P305 : Pl := .z
def S305 (_ : CV) (a0 a1 a2 a3 : AV) (h : AH) : R :=
pNil a0 fun v0 =>
pFieldA v0 2 fun v1 =>
pStore h v1 a1 1 fun h2 =>
pNil a0 fun v3 =>
pFieldA v3 4 fun v4 =>
pStore h2 v4 a2 1 fun h5 =>
pNil a0 fun v6 =>
pFieldA v6 3 fun v7 =>
pStore h5 v7 a3 1 fun h8 =>
some ((.tup []), h8)
theorem S305_eq (c : CV) (a0 a1 a2 a3 : AV) (h : AH) : enterK Tryz.prog NN P305 c 305 [a0, a1, a2, a3] h = S305 c a0 a1 a2 a3 h := by kernel_rfl
def W305 (c : CV) (l : List AV) (h : AH) : R := match l with | [a0, a1, a2, a3] => S305 c a0 a1 a2 a3 h | _ => none
theorem W305_ok : WOk Tryz.prog 305 W305 := by
  intro c l h r e
  unfold W305 at e
  split at e
  · exact ⟨P305, by rw [S305_eq]; exact e⟩
  · cases e
/- (*quietus/fetch.Fetch).found -/
def P306 : Pl := (.n none .z (.n none .z (.n (some []) .z .z)))
def S306 (c : CV) (a0 a1 : AV) (h : AH) : R :=
pBox h 37 a1 fun v0 h1 =>
pNil a0 fun v2 =>
pFieldA v2 8 fun v3 =>
pStore h1 v3 (.int .i64 (.ofNat 0)) 1 fun h4 =>
joinC (α := Unit → AH → List Nat → R) (fun _ h6 d7 =>
pLeave d7 h6 fun h9 =>
some ((.tup []), h9)) fun j8 =>
pFieldA v0 1 fun v10 =>
pLoad1 h4 v10 fun v11 =>
pCond v11 (
pNil a0 fun v12 =>
pFieldA v12 0 fun v13 =>
pLoadN h4 v0 3 fun v14 =>
pCall c (.fn 307 [] []) [v13, v14] h4 fun v15 h16 =>
pUn .not v15 fun v17 =>
pCond v17 (
pNil a0 fun v18 =>
pFieldA v18 0 fun v19 =>
pFieldA v0 2 fun v20 =>
pLoad1 h16 v20 fun v21 =>
pCall c (.fn 305 [] []) [v19, (.int .i64 (.ofNat 5)), (.int .i64 (.ofNat 0)), v21] h16 fun _ h23 =>
j8 (()) h23 []) (
j8 (()) h16 [])) (
pFieldA v0 0 fun v24 =>
pLoad1 h4 v24 fun v25 =>
pNil a0 fun v26 =>
pFieldA v26 7 fun v27 =>
pLoad1 h4 v27 fun v28 =>
pInt .gtr v25 v28 fun v29 =>
pCond v29 (
pNil a0 fun v30 =>
pFieldA v30 0 fun v31 =>
pCall c (.fn 305 [] []) [v31, (.int .i64 (.ofNat 6)), (.int .i64 (.ofNat 0)), (.int .i64 (.negSucc 0))] h4 fun _ h33 =>
j8 (()) h33 []) (
pLoadN h4 v0 3 fun v34 =>
pNil a0 fun v35 =>
pFieldA v35 9 fun v36 =>
pStore h4 v36 v34 3 fun h37 =>
pNil a0 fun v38 =>
pFieldA v38 8 fun v39 =>
pStore h37 v39 (.int .i64 (.ofNat 1)) 1 fun h40 =>
j8 (()) h40 []))
theorem S306_eq (c : CV) (a0 a1 : AV) (h : AH) : enterK Tryz.prog NN P306 c 306 [a0, a1] h = S306 c a0 a1 h := by kernel_rfl
def W306 (c : CV) (l : List AV) (h : AH) : R := match l with | [a0, a1] => S306 c a0 a1 h | _ => none
theorem W306_ok : WOk Tryz.prog 306 W306 := by
  intro c l h r e
  unfold W306 at e
  split at e
  · exact ⟨P306, by rw [S306_eq]; exact e⟩
  · cases e
/- (*quietus/patience.Patience).Waits -/
def P307 : Pl := .z
def S307 (_ : CV) (a0 a1 : AV) (h : AH) : R :=
pBox h 37 a1 fun v0 h1 =>
pFieldA v0 2 fun v2 =>
pLoad1 h1 v2 fun v3 =>
pNil a0 fun v4 =>
pFieldA v4 0 fun v5 =>
pLoad1 h1 v5 fun v6 =>
pInt .gtr v3 v6 fun v7 =>
pCond v7 (
some ((.bool true), h1)) (
pNil a0 fun v8 =>
pFieldA v8 1 fun v9 =>
pLoad1 h1 v9 fun v10 =>
pInt .sub v10 (.int .i64 (.ofNat 1)) fun v11 =>
pNil a0 fun v12 =>
pFieldA v12 1 fun v13 =>
pStore h1 v13 v11 1 fun h14 =>
pNil a0 fun v15 =>
pFieldA v15 1 fun v16 =>
pLoad1 h14 v16 fun v17 =>
pInt .geq v17 (.int .i64 (.ofNat 0)) fun v18 =>
some (v18, h14))
theorem S307_eq (c : CV) (a0 a1 : AV) (h : AH) : enterK Tryz.prog NN P307 c 307 [a0, a1] h = S307 c a0 a1 h := by kernel_rfl
def W307 (c : CV) (l : List AV) (h : AH) : R := match l with | [a0, a1] => S307 c a0 a1 h | _ => none
theorem W307_ok : WOk Tryz.prog 307 W307 := by
  intro c l h r e
  unfold W307 at e
  split at e
  · exact ⟨P307, by rw [S307_eq]; exact e⟩
  · cases e
/- (*quietus/extend.Extend).By -/
def P308 : Pl := .z
def S308 (c : CV) (a0 : AV) (h : AH) : R :=
pNil a0 fun v0 =>
pFieldA v0 0 fun v1 =>
pCall c (.fn 303 [] []) [v1] h fun v2 h3 =>
some (v2, h3)
theorem S308_eq (c : CV) (a0 : AV) (h : AH) : enterK Tryz.prog NN P308 c 308 [a0] h = S308 c a0 h := by kernel_rfl
def W308 (c : CV) (l : List AV) (h : AH) : R := match l with | [a0] => S308 c a0 h | _ => none
theorem W308_ok : WOk Tryz.prog 308 W308 := by
  intro c l h r e
  unfold W308 at e
  split at e
  · exact ⟨P308, by rw [S308_eq]; exact e⟩
  · cases e
/- (*quietus/extend.Extend).Next -/
def P309 : Pl := .z
def S309 (c : CV) (a0 : AV) (h : AH) : R :=
pBox h 39 (.agg [(.int .i64 (.ofNat 0)), (.int .i64 (.ofNat 0)), (.int .u64 (.ofNat 0)), (.int .u64 (.ofNat 0)), (.int .u64 (.ofNat 0)), (.bool false), (.int .i64 (.ofNat 0)), (.int .u64 (.ofNat 0)), (.bool false), (.int .i64 (.ofNat 0))]) fun v0 h1 =>
pNil a0 fun v2 =>
pFieldA v2 0 fun v3 =>
pCall c (.fn 65 [] []) [v3] h1 fun v4 h5 =>
pInt .neq v4 (.int .i64 (.ofNat 0)) fun v6 =>
pCond v6 (
pBuild [(.int .i64 (.ofNat 0)), (.int .i64 (.ofNat 0)), (.int .u64 (.ofNat 0)), (.int .u64 (.ofNat 0)), (.int .u64 (.ofNat 0)), (.bool false), (.int .i64 (.ofNat 0)), (.int .u64 (.ofNat 0)), (.bool false), (.int .i64 (.ofNat 0))] [] fun v7 =>
pStore h5 v0 v7 10 fun h8 =>
pLoadN h8 v0 10 fun v9 =>
some ((.tup [v9, (.bool false)]), h8)) (
pNil a0 fun v10 =>
pFieldA v10 6 fun v11 =>
pLoad1 h5 v11 fun v12 =>
pUn .not v12 fun v13 =>
pCond v13 (
pBuild [(.int .i64 (.ofNat 0)), (.int .i64 (.ofNat 0)), (.int .u64 (.ofNat 0)), (.int .u64 (.ofNat 0)), (.int .u64 (.ofNat 0)), (.bool false), (.int .i64 (.ofNat 0)), (.int .u64 (.ofNat 0)), (.bool false), (.int .i64 (.ofNat 0))] [(0, 1, (.int .i64 (.ofNat 6)))] fun v14 =>
pStore h5 v0 v14 10 fun h15 =>
pLoadN h15 v0 10 fun v16 =>
some ((.tup [v16, (.bool true)]), h15)) (
pNil a0 fun v17 =>
pFieldA v17 5 fun v18 =>
pLoad1 h5 v18 fun v19 =>
pNil a0 fun v20 =>
pFieldA v20 7 fun v21 =>
pLoad1 h5 v21 fun v22 =>
pIdxS v19 v22 2 fun v23 =>
pFieldA v23 0 fun v24 =>
pLoad1 h5 v24 fun v25 =>
pBuild [(.int .i64 (.ofNat 0)), (.int .i64 (.ofNat 0)), (.int .u64 (.ofNat 0)), (.int .u64 (.ofNat 0)), (.int .u64 (.ofNat 0)), (.bool false), (.int .i64 (.ofNat 0)), (.int .u64 (.ofNat 0)), (.bool false), (.int .i64 (.ofNat 0))] [(0, 1, (.int .i64 (.ofNat 3))), (1, 1, v25)] fun v26 =>
pStore h5 v0 v26 10 fun h27 =>
pLoadN h27 v0 10 fun v28 =>
some ((.tup [v28, (.bool true)]), h27)))
theorem S309_eq (c : CV) (a0 : AV) (h : AH) : enterK Tryz.prog NN P309 c 309 [a0] h = S309 c a0 h := by kernel_rfl
def W309 (c : CV) (l : List AV) (h : AH) : R := match l with | [a0] => S309 c a0 h | _ => none
theorem W309_ok : WOk Tryz.prog 309 W309 := by
  intro c l h r e
  unfold W309 at e
  split at e
  · exact ⟨P309, by rw [S309_eq]; exact e⟩
  · cases e
/- (*quietus/extend.Extend).Tell -/
def P310 : Pl := (.n none .z (.n none (.n (some [0]) (.n none .z (.n none .z (.n none .z (.n none (.r [[0]]) (.n none .z (.n none (.n (some []) .z .z) .z)))))) .z) .z))
def S310 (c : CV) (a0 a1 : AV) (h : AH) : R :=
pBox h 47 a1 fun v0 h1 =>
joinC (α := AV × Unit → AH → List Nat → R) (fun s2 h3 d4 =>
pNil s2.1 fun v6 =>
pFieldA v6 7 fun v7 =>
pLoad1 h3 v7 fun v8 =>
pNil s2.1 fun v9 =>
pFieldA v9 5 fun v10 =>
pLoad1 h3 v10 fun v11 =>
pLenS v11 fun v12 =>
pInt .eql v8 v12 fun v13 =>
pCond v13 (
pNil s2.1 fun v14 =>
pFieldA v14 0 fun v15 =>
pCall c (.fn 305 [] []) [v15, (.int .i64 (.ofNat 2)), (.int .i64 (.ofNat 0)), (.int .i64 (.negSucc 0))] h3 fun _ h17 =>
pLeave d4 h17 fun h18 =>
some ((.tup []), h18)) (
pLeave d4 h3 fun h19 =>
some ((.tup []), h19))) fun j5 =>
pNil a0 fun v20 =>
pFieldA v20 0 fun v21 =>
pLoadN h1 v0 6 fun v22 =>
pCall c (.fn 304 [] []) [v21, v22] h1 fun v23 h24 =>
pCond v23 (
some ((.tup []), h24)) (
pNil a0 fun v25 =>
pFieldA v25 6 fun v26 =>
pLoad1 h24 v26 fun v27 =>
pUn .not v27 fun v28 =>
pCond v28 (
joinC (α := AV × Unit → AH → R) (fun s29 h30 =>
j5 (s29.1, ()) h30 []) fun j31 =>
pFieldA v0 0 fun v32 =>
pLoad1 h24 v32 fun v33 =>
pNil a0 fun v34 =>
pFieldA v34 6 fun v35 =>
pStore h24 v35 (.bool true) 1 fun h36 =>
pNil a0 fun v37 =>
pFieldA v37 8 fun v38 =>
pStore h36 v38 v33 1 fun h39 =>
pChk v32 none v33 h24 h36 h24.nx <|
j31 (a0, ()) h39) (
pFieldA v0 1 fun v40 =>
pFieldA v40 1 fun v41 =>
pLoad1 h24 v41 fun v42 =>
pCond v42 (
joinC (α := Unit → AH → List Nat → R) (fun _ h44 d45 =>
pLeave d45 h44 fun h47 =>
some ((.tup []), h47)) fun j46 =>
pNil a0 fun v48 =>
pFieldA v48 0 fun v49 =>
pFieldA v0 1 fun v50 =>
pLoadN h24 v50 3 fun v51 =>
pCall c (.fn 307 [] []) [v49, v51] h24 fun v52 h53 =>
pUn .not v52 fun v54 =>
pCond v54 (
pNil a0 fun v55 =>
pFieldA v55 0 fun v56 =>
pFieldA v0 1 fun v57 =>
pFieldA v57 2 fun v58 =>
pLoad1 h53 v58 fun v59 =>
pCall c (.fn 305 [] []) [v56, (.int .i64 (.ofNat 5)), (.int .i64 (.ofNat 0)), v59] h53 fun _ h61 =>
j46 (()) h61 []) (
j46 (()) h53 [])) (
pFieldA v0 1 fun v62 =>
pFieldA v62 0 fun v63 =>
pLoad1 h24 v63 fun v64 =>
pNil a0 fun v65 =>
pFieldA v65 5 fun v66 =>
pLoad1 h24 v66 fun v67 =>
pNil a0 fun v68 =>
pFieldA v68 7 fun v69 =>
pLoad1 h24 v69 fun v70 =>
pIdxS v67 v70 2 fun v71 =>
pFieldA v71 1 fun v72 =>
pLoad1 h24 v72 fun v73 =>
pInt .neq v64 v73 fun v74 =>
pCond v74 (
pNil a0 fun v75 =>
pFieldA v75 0 fun v76 =>
pCall c (.fn 305 [] []) [v76, (.int .i64 (.ofNat 5)), (.int .i64 (.ofNat 0)), (.int .i64 (.negSucc 0))] h24 fun _ h78 =>
some ((.tup []), h78)) (
pNil a0 fun v79 =>
pFieldA v79 7 fun v80 =>
pLoad1 h24 v80 fun v81 =>
pInt .add v81 (.int .i64 (.ofNat 1)) fun v82 =>
pNil a0 fun v83 =>
pFieldA v83 7 fun v84 =>
pStore h24 v84 v82 1 fun h85 =>
j5 (a0, ()) h85 []))))
theorem S310_eq (c : CV) (a0 a1 : AV) (h : AH) : enterK Tryz.prog NN P310 c 310 [a0, a1] h = S310 c a0 a1 h := by kernel_rfl
def W310 (c : CV) (l : List AV) (h : AH) : R := match l with | [a0, a1] => S310 c a0 a1 h | _ => none
theorem W310_ok : WOk Tryz.prog 310 W310 := by
  intro c l h r e
  unfold W310 at e
  split at e
  · exact ⟨P310, by rw [S310_eq]; exact e⟩
  · cases e
/- (*quietus/commit.Commit).By -/
def P311 : Pl := .z
def S311 (c : CV) (a0 : AV) (h : AH) : R :=
pNil a0 fun v0 =>
pFieldA v0 0 fun v1 =>
pCall c (.fn 303 [] []) [v1] h fun v2 h3 =>
some (v2, h3)
theorem S311_eq (c : CV) (a0 : AV) (h : AH) : enterK Tryz.prog NN P311 c 311 [a0] h = S311 c a0 h := by kernel_rfl
def W311 (c : CV) (l : List AV) (h : AH) : R := match l with | [a0] => S311 c a0 h | _ => none
theorem W311_ok : WOk Tryz.prog 311 W311 := by
  intro c l h r e
  unfold W311 at e
  split at e
  · exact ⟨P311, by rw [S311_eq]; exact e⟩
  · cases e
/- (*quietus/commit.Commit).Next -/
def P312 : Pl := .z
def S312 (c : CV) (a0 : AV) (h : AH) : R :=
pBox h 39 (.agg [(.int .i64 (.ofNat 0)), (.int .i64 (.ofNat 0)), (.int .u64 (.ofNat 0)), (.int .u64 (.ofNat 0)), (.int .u64 (.ofNat 0)), (.bool false), (.int .i64 (.ofNat 0)), (.int .u64 (.ofNat 0)), (.bool false), (.int .i64 (.ofNat 0))]) fun v0 h1 =>
pNil a0 fun v2 =>
pFieldA v2 0 fun v3 =>
pCall c (.fn 65 [] []) [v3] h1 fun v4 h5 =>
pInt .neq v4 (.int .i64 (.ofNat 0)) fun v6 =>
pCond v6 (
pBuild [(.int .i64 (.ofNat 0)), (.int .i64 (.ofNat 0)), (.int .u64 (.ofNat 0)), (.int .u64 (.ofNat 0)), (.int .u64 (.ofNat 0)), (.bool false), (.int .i64 (.ofNat 0)), (.int .u64 (.ofNat 0)), (.bool false), (.int .i64 (.ofNat 0))] [] fun v7 =>
pStore h5 v0 v7 10 fun h8 =>
pLoadN h8 v0 10 fun v9 =>
some ((.tup [v9, (.bool false)]), h8)) (
pNil a0 fun v10 =>
pFieldA v10 11 fun v11 =>
pLoad1 h5 v11 fun v12 =>
pInt .eql v12 (.int .i64 (.ofNat 0)) fun v13 =>
pCond v13 (
pNil a0 fun v14 =>
pFieldA v14 9 fun v15 =>
pLoad1 h5 v15 fun v16 =>
pNil a0 fun v17 =>
pFieldA v17 10 fun v18 =>
pLoad1 h5 v18 fun v19 =>
pLenS v19 fun v20 =>
pIdxS v16 v20 1 fun v21 =>
pLoad1 h5 v21 fun v22 =>
pBuild [(.int .i64 (.ofNat 0)), (.int .i64 (.ofNat 0)), (.int .u64 (.ofNat 0)), (.int .u64 (.ofNat 0)), (.int .u64 (.ofNat 0)), (.bool false), (.int .i64 (.ofNat 0)), (.int .u64 (.ofNat 0)), (.bool false), (.int .i64 (.ofNat 0))] [(0, 1, (.int .i64 (.ofNat 3))), (1, 1, v22)] fun v23 =>
pStore h5 v0 v23 10 fun h24 =>
pLoadN h24 v0 10 fun v25 =>
some ((.tup [v25, (.bool true)]), h24)) (
pInt .eql v12 (.int .i64 (.ofNat 1)) fun v26 =>
pCond v26 (
pNil a0 fun v27 =>
pFieldA v27 13 fun v28 =>
pFieldA v28 0 fun v29 =>
pLoad1 h5 v29 fun v30 =>
pNil a0 fun v31 =>
pFieldA v31 5 fun v32 =>
pLoad1 h5 v32 fun v33 =>
pBuild [(.int .u64 (.ofNat 0)), (.bool false), (.int .i64 (.ofNat 0))] [(0, 1, v30), (1, 1, (.bool true)), (2, 1, v33)] fun v34 =>
pBox h5 37 (.agg [(.int .u64 (.ofNat 0)), (.bool false), (.int .i64 (.ofNat 0))]) fun v35 h36 =>
pStore h36 v35 v34 3 fun h37 =>
pNil a0 fun v38 =>
pFieldA v38 9 fun v39 =>
pLoad1 h37 v39 fun v40 =>
pNil a0 fun v41 =>
pFieldA v41 10 fun v42 =>
pLoad1 h37 v42 fun v43 =>
pLenS v43 fun v44 =>
pIdxS v40 v44 1 fun v45 =>
pLoad1 h37 v45 fun v46 =>
pNil a0 fun v47 =>
pFieldA v47 13 fun v48 =>
pLoadN h37 v48 3 fun v49 =>
pLoadN h37 v35 3 fun v50 =>
pBuild [(.int .i64 (.ofNat 0)), (.int .i64 (.ofNat 0)), (.int .u64 (.ofNat 0)), (.int .u64 (.ofNat 0)), (.int .u64 (.ofNat 0)), (.bool false), (.int .i64 (.ofNat 0)), (.int .u64 (.ofNat 0)), (.bool false), (.int .i64 (.ofNat 0))] [(0, 1, (.int .i64 (.ofNat 4))), (1, 1, v46), (4, 3, v49), (7, 3, v50)] fun v51 =>
pStore h37 v0 v51 10 fun h52 =>
pLoadN h52 v0 10 fun v53 =>
some ((.tup [v53, (.bool true)]), h52)) (
pInt .eql v12 (.int .i64 (.ofNat 2)) fun v54 =>
pCond v54 (
pBuild [(.int .i64 (.ofNat 0)), (.int .i64 (.ofNat 0)), (.int .u64 (.ofNat 0)), (.int .u64 (.ofNat 0)), (.int .u64 (.ofNat 0)), (.bool false), (.int .i64 (.ofNat 0)), (.int .u64 (.ofNat 0)), (.bool false), (.int .i64 (.ofNat 0))] [(0, 1, (.int .i64 (.ofNat 6)))] fun v55 =>
pStore h5 v0 v55 10 fun h56 =>
pLoadN h56 v0 10 fun v57 =>
some ((.tup [v57, (.bool true)]), h56)) (
pInt .eql v12 (.int .i64 (.ofNat 3)) fun v58 =>
pCond v58 (
pNil a0 fun v59 =>
pFieldA v59 16 fun v60 =>
pLoad1 h5 v60 fun v61 =>
pNil a0 fun v62 =>
pFieldA v62 16 fun v63 =>
pLoad1 h5 v63 fun v64 =>
pInt .add v64 (.int .u64 (.ofNat 1)) fun v65 =>
pBuild [(.int .i64 (.ofNat 0)), (.int .i64 (.ofNat 0)), (.int .u64 (.ofNat 0)), (.int .u64 (.ofNat 0)), (.int .u64 (.ofNat 0)), (.bool false), (.int .i64 (.ofNat 0)), (.int .u64 (.ofNat 0)), (.bool false), (.int .i64 (.ofNat 0))] [(0, 1, (.int .i64 (.ofNat 7))), (2, 1, v61), (3, 1, v65)] fun v66 =>
pStore h5 v0 v66 10 fun h67 =>
pLoadN h67 v0 10 fun v68 =>
some ((.tup [v68, (.bool true)]), h67)) (
pInt .eql v12 (.int .i64 (.ofNat 4)) fun v69 =>
pCond v69 (
pNil a0 fun v70 =>
pFieldA v70 7 fun v71 =>
pLoad1 h5 v71 fun v72 =>
pNil a0 fun v73 =>
pFieldA v73 12 fun v74 =>
pLoad1 h5 v74 fun v75 =>
pIdxS v72 v75 2 fun v76 =>
pFieldA v76 0 fun v77 =>
pLoad1 h5 v77 fun v78 =>
pBuild [(.int .i64 (.ofNat 0)), (.int .i64 (.ofNat 0)), (.int .u64 (.ofNat 0)), (.int .u64 (.ofNat 0)), (.int .u64 (.ofNat 0)), (.bool false), (.int .i64 (.ofNat 0)), (.int .u64 (.ofNat 0)), (.bool false), (.int .i64 (.ofNat 0))] [(0, 1, (.int .i64 (.ofNat 3))), (1, 1, v78)] fun v79 =>
pStore h5 v0 v79 10 fun h80 =>
pLoadN h80 v0 10 fun v81 =>
some ((.tup [v81, (.bool true)]), h80)) (
pInt .eql v12 (.int .i64 (.ofNat 5)) fun v82 =>
pCond v82 (
pNil a0 fun v83 =>
pFieldA v83 8 fun v84 =>
pLoad1 h5 v84 fun v85 =>
pNil a0 fun v86 =>
pFieldA v86 12 fun v87 =>
pLoad1 h5 v87 fun v88 =>
pIdxS v85 v88 2 fun v89 =>
pFieldA v89 0 fun v90 =>
pLoad1 h5 v90 fun v91 =>
pNil a0 fun v92 =>
pFieldA v92 8 fun v93 =>
pLoad1 h5 v93 fun v94 =>
pNil a0 fun v95 =>
pFieldA v95 12 fun v96 =>
pLoad1 h5 v96 fun v97 =>
pIdxS v94 v97 2 fun v98 =>
pFieldA v98 1 fun v99 =>
pLoad1 h5 v99 fun v100 =>
pBuild [(.int .i64 (.ofNat 0)), (.int .i64 (.ofNat 0)), (.int .u64 (.ofNat 0)), (.int .u64 (.ofNat 0)), (.int .u64 (.ofNat 0)), (.bool false), (.int .i64 (.ofNat 0)), (.int .u64 (.ofNat 0)), (.bool false), (.int .i64 (.ofNat 0))] [(0, 1, (.int .i64 (.ofNat 2))), (1, 1, v91), (3, 1, v100)] fun v101 =>
pStore h5 v0 v101 10 fun h102 =>
pLoadN h102 v0 10 fun v103 =>
some ((.tup [v103, (.bool true)]), h102)) (
pInt .eql v12 (.int .i64 (.ofNat 6)) fun v104 =>
pCond v104 (
pNil a0 fun v105 =>
pFieldA v105 9 fun v106 =>
pLoad1 h5 v106 fun v107 =>
pNil a0 fun v108 =>
pFieldA v108 12 fun v109 =>
pLoad1 h5 v109 fun v110 =>
pIdxS v107 v110 1 fun v111 =>
pLoad1 h5 v111 fun v112 =>
pNil a0 fun v113 =>
pFieldA v113 16 fun v114 =>
pLoad1 h5 v114 fun v115 =>
pInt .add v115 (.int .u64 (.ofNat 1)) fun v116 =>
pBuild [(.int .u64 (.ofNat 0)), (.bool false), (.int .i64 (.ofNat 0))] [(0, 1, v116)] fun v117 =>
pBuild [(.int .i64 (.ofNat 0)), (.int .i64 (.ofNat 0)), (.int .u64 (.ofNat 0)), (.int .u64 (.ofNat 0)), (.int .u64 (.ofNat 0)), (.bool false), (.int .i64 (.ofNat 0)), (.int .u64 (.ofNat 0)), (.bool false), (.int .i64 (.ofNat 0))] [(0, 1, (.int .i64 (.ofNat 5))), (1, 1, v112), (7, 3, v117)] fun v118 =>
pStore h5 v0 v118 10 fun h119 =>
pLoadN h119 v0 10 fun v120 =>
some ((.tup [v120, (.bool true)]), h119)) (
pNil a0 fun v121 =>
pFieldA v121 9 fun v122 =>
pLoad1 h5 v122 fun v123 =>
pNil a0 fun v124 =>
pFieldA v124 12 fun v125 =>
pLoad1 h5 v125 fun v126 =>
pIdxS v123 v126 1 fun v127 =>
pLoad1 h5 v127 fun v128 =>
pNil a0 fun v129 =>
pFieldA v129 10 fun v130 =>
pLoad1 h5 v130 fun v131 =>
pNil a0 fun v132 =>
pFieldA v132 12 fun v133 =>
pLoad1 h5 v133 fun v134 =>
pIdxS v131 v134 3 fun v135 =>
pLoadN h5 v135 3 fun v136 =>
pBuild [(.int .i64 (.ofNat 0)), (.int .i64 (.ofNat 0)), (.int .u64 (.ofNat 0)), (.int .u64 (.ofNat 0)), (.int .u64 (.ofNat 0)), (.bool false), (.int .i64 (.ofNat 0)), (.int .u64 (.ofNat 0)), (.bool false), (.int .i64 (.ofNat 0))] [(0, 1, (.int .i64 (.ofNat 5))), (1, 1, v128), (7, 3, v136)] fun v137 =>
pStore h5 v0 v137 10 fun h138 =>
pLoadN h138 v0 10 fun v139 =>
some ((.tup [v139, (.bool true)]), h138)))))))))
theorem S312_eq (c : CV) (a0 : AV) (h : AH) : enterK Tryz.prog NN P312 c 312 [a0] h = S312 c a0 h := by kernel_rfl
def W312 (c : CV) (l : List AV) (h : AH) : R := match l with | [a0] => S312 c a0 h | _ => none
theorem W312_ok : WOk Tryz.prog 312 W312 := by
  intro c l h r e
  unfold W312 at e
  split at e
  · exact ⟨P312, by rw [S312_eq]; exact e⟩
  · cases e
/- (*quietus/commit.Commit).Tell -/
def P313 : Pl := (.n none .z (.n none .z (.n none .z (.n (some []) (.n (some [13, 12, 3, 0]) .z (.n none .z (.n (some [19, 12, 3, 0]) .z .z))) .z))))
def S313 (c : CV) (a0 a1 : AV) (h : AH) : R :=
pBox h 47 a1 fun v0 h1 =>
pNil a0 fun v2 =>
pFieldA v2 0 fun v3 =>
pLoadN h1 v0 6 fun v4 =>
pCall c (.fn 304 [] []) [v3, v4] h1 fun v5 h6 =>
pCond v5 (
some ((.tup []), h6)) (
pNil a0 fun v7 =>
pFieldA v7 11 fun v8 =>
pLoad1 h6 v8 fun v9 =>
joinC (α := Unit → AH → List Nat → R) (fun _ h11 d12 =>
pLeave d12 h11 fun h14 =>
some ((.tup []), h14)) fun j13 =>
joinC (α := AV × AV × AV × AV × Unit → AH → List Nat → R) (fun s15 h16 d17 =>
pCond s15.1 (
pLoadN h16 s15.2.2.1 6 fun v19 =>
pCall c (.fn 315 [] []) [s15.2.2.2.1, v19] h16 fun _ h21 =>
j13 (()) h21 d17) (
joinC (α := AV × AV × AV × AV × Unit → AH → List Nat → R) (fun s22 h23 d24 =>
pCond s22.1 (
pLoadN h23 s22.2.2.1 6 fun v26 =>
pCall c (.fn 316 [] []) [s22.2.2.2.1, v26] h23 fun _ h28 =>
j13 (()) h28 d24) (
pInt .eql s22.2.1 (.int .i64 (.ofNat 4)) fun v29 =>
pCond v29 (
pFieldA s22.2.2.1 1 fun v30 =>
pLoadN h23 v30 3 fun v31 =>
pCall c (.fn 317 [] []) [s22.2.2.2.1, v31] h23 fun _ h33 =>
j13 (()) h33 d24) (
pInt .eql s22.2.1 (.int .i64 (.ofNat 5)) fun v34 =>
pCond v34 (
pNil s22.2.2.2.1 fun v35 =>
pFieldA v35 12 fun v36 =>
pLoad1 h23 v36 fun v37 =>
pInt .add v37 (.int .i64 (.ofNat 1)) fun v38 =>
pNil s22.2.2.2.1 fun v39 =>
pFieldA v39 12 fun v40 =>
pStore h23 v40 v38 1 fun h41 =>
pCall c (.fn 318 [] []) [s22.2.2.2.1] h41 fun _ h43 =>
j13 (()) h43 d24) (
pInt .eql s22.2.1 (.int .i64 (.ofNat 6)) fun v44 =>
pCond v44 (
pNil s22.2.2.2.1 fun v45 =>
pFieldA v45 12 fun v46 =>
pLoad1 h23 v46 fun v47 =>
pInt .add v47 (.int .i64 (.ofNat 1)) fun v48 =>
pNil s22.2.2.2.1 fun v49 =>
pFieldA v49 12 fun v50 =>
pStore h23 v50 v48 1 fun h51 =>
pCall c (.fn 319 [] []) [s22.2.2.2.1] h51 fun _ h53 =>
j13 (()) h53 d24) (
pInt .eql s22.2.1 (.int .i64 (.ofNat 7)) fun v54 =>
pCond v54 (
pNil s22.2.2.2.1 fun v55 =>
pFieldA v55 12 fun v56 =>
pLoad1 h23 v56 fun v57 =>
pInt .add v57 (.int .i64 (.ofNat 1)) fun v58 =>
pNil s22.2.2.2.1 fun v59 =>
pFieldA v59 12 fun v60 =>
pStore h23 v60 v58 1 fun h61 =>
pCall c (.fn 320 [] []) [s22.2.2.2.1] h61 fun _ h63 =>
j13 (()) h63 d24) (
j13 (()) h23 d24)))))) fun j25 =>
pInt .eql s15.2.1 (.int .i64 (.ofNat 2)) fun v64 =>
pCond v64 (
j25 (v64, s15.2.1, s15.2.2.1, s15.2.2.2.1, ()) h16 d17) (
pInt .eql s15.2.1 (.int .i64 (.ofNat 3)) fun v65 =>
j25 (v65, s15.2.1, s15.2.2.1, s15.2.2.2.1, ()) h16 d17))) fun j18 =>
pInt .eql v9 (.int .i64 (.ofNat 0)) fun v66 =>
pCond v66 (
j18 (v66, v9, v0, a0, ()) h6 []) (
pInt .eql v9 (.int .i64 (.ofNat 1)) fun v67 =>
j18 (v67, v9, v0, a0, ()) h6 []))
theorem S313_eq (c : CV) (a0 a1 : AV) (h : AH) : enterK Tryz.prog NN P313 c 313 [a0, a1] h = S313 c a0 a1 h := by kernel_rfl
def W313 (c : CV) (l : List AV) (h : AH) : R := match l with | [a0, a1] => S313 c a0 a1 h | _ => none
theorem W313_ok : WOk Tryz.prog 313 W313 := by
  intro c l h r e
  unfold W313 at e
  split at e
  · exact ⟨P313, by rw [S313_eq]; exact e⟩
  · cases e
/- (*quietus/commit.Commit).begin -/
def P314 : Pl := .z
def S314 (c : CV) (a0 : AV) (h : AH) : R :=
pNil a0 fun v0 =>
pFieldA v0 17 fun v1 =>
pStore h v1 (.bool true) 1 fun h2 =>
pNil a0 fun v3 =>
pFieldA v3 12 fun v4 =>
pStore h2 v4 (.int .i64 (.ofNat 0)) 1 fun h5 =>
pNil a0 fun v6 =>
pFieldA v6 11 fun v7 =>
pStore h5 v7 (.int .i64 (.ofNat 5)) 1 fun h8 =>
pCall c (.fn 318 [] []) [a0] h8 fun _ h10 =>
some ((.tup []), h10)
theorem S314_eq (c : CV) (a0 : AV) (h : AH) : enterK Tryz.prog NN P314 c 314 [a0] h = S314 c a0 h := by kernel_rfl
def W314 (c : CV) (l : List AV) (h : AH) : R := match l with | [a0] => S314 c a0 h | _ => none
theorem W314_ok : WOk Tryz.prog 314 W314 := by
  intro c l h r e
  unfold W314 at e
  split at e
  · exact ⟨P314, by rw [S314_eq]; exact e⟩
  · cases e
/- (*quietus/commit.Commit).take -/
def P315 : Pl := (.n none .z (.n (some []) (.n none (.r [[16, 13, 3, 0]]) .z) .z))
def S315 (c : CV) (a0 a1 : AV) (h : AH) : R :=
pBox h 47 a1 fun v0 h1 =>
joinC (α := Unit → AH → List Nat → R) (fun _ h3 d4 =>
pLeave d4 h3 fun h6 =>
some ((.tup []), h6)) fun j5 =>
pNil a0 fun v7 =>
pFieldA v7 11 fun v8 =>
pLoad1 h1 v8 fun v9 =>
pInt .eql v9 (.int .i64 (.ofNat 0)) fun v10 =>
joinC (α := AV × AV × AV × AV × Unit → AH → R) (fun s11 h12 =>
pPick s11.2.1 s11.1 (.bool false) fun v14 =>
pCond v14 (
pFieldA s11.2.2.1 1 fun v15 =>
pLoadN h12 v15 3 fun v16 =>
pCall c (.fn 321 [] []) [s11.2.2.2.1, v16] h12 fun _ h18 =>
j5 (()) h18 []) (
pNil s11.2.2.2.1 fun v19 =>
pFieldA v19 11 fun v20 =>
pLoad1 h12 v20 fun v21 =>
pInt .eql v21 (.int .i64 (.ofNat 0)) fun v22 =>
pCond v22 (
pFieldA s11.2.2.1 1 fun v23 =>
pLoadN h12 v23 3 fun v24 =>
pNil s11.2.2.2.1 fun v25 =>
pFieldA v25 13 fun v26 =>
pStore h12 v26 v24 3 fun h27 =>
pNil s11.2.2.2.1 fun v28 =>
pFieldA v28 11 fun v29 =>
pStore h27 v29 (.int .i64 (.ofNat 1)) 1 fun h30 =>
j5 (()) h30 []) (
pFieldA s11.2.2.1 4 fun v31 =>
pLoad1 h12 v31 fun v32 =>
pCond v32 (
pNil s11.2.2.2.1 fun v33 =>
pFieldA v33 10 fun v34 =>
pLoad1 h12 v34 fun v35 =>
pNil s11.2.2.2.1 fun v36 =>
pFieldA v36 13 fun v37 =>
pLoadN h12 v37 3 fun v38 =>
pBuildS h12 37 [(.int .u64 (.ofNat 0)), (.bool false), (.int .i64 (.ofNat 0))] 1 [(0, 3, v38)] fun v39 h40 =>
pAppend h40 37 3 v35 v39 fun v41 h42 =>
pNil s11.2.2.2.1 fun v43 =>
pFieldA v43 10 fun v44 =>
pStore h42 v44 v41 1 fun h45 =>
pCall c (.fn 84 [] []) [s11.2.2.2.1] h45 fun _ h47 =>
j5 (()) h47 []) (
pNil s11.2.2.2.1 fun v48 =>
pFieldA v48 11 fun v49 =>
pStore h12 v49 (.int .i64 (.ofNat 0)) 1 fun h50 =>
j5 (()) h50 [])))) fun j13 =>
pWant v10 true (
pFieldA v0 1 fun v51 =>
pFieldA v51 1 fun v52 =>
pLoad1 h1 v52 fun v53 =>
j13 (v53, v10, v0, a0, ()) h1) (
j13 (.undef, v10, v0, a0, ()) h1)
theorem S315_eq (c : CV) (a0 a1 : AV) (h : AH) : enterK Tryz.prog NN P315 c 315 [a0, a1] h = S315 c a0 a1 h := by kernel_rfl
def W315 (c : CV) (l : List AV) (h : AH) : R := match l with | [a0, a1] => S315 c a0 a1 h | _ => none
theorem W315_ok : WOk Tryz.prog 315 W315 := by
  intro c l h r e
  unfold W315 at e
  split at e
  · exact ⟨P315, by rw [S315_eq]; exact e⟩
  · cases e
/- (*quietus/commit.Commit).raise -/
def P316 : Pl := (.n none .z (.n (some []) (.n none (.r [[15, 12, 3, 0]]) .z) .z))
def S316 (c : CV) (a0 a1 : AV) (h : AH) : R :=
pBox h 47 a1 fun v0 h1 =>
joinC (α := Unit → AH → List Nat → R) (fun _ h3 d4 =>
pLeave d4 h3 fun h6 =>
some ((.tup []), h6)) fun j5 =>
pNil a0 fun v7 =>
pFieldA v7 11 fun v8 =>
pLoad1 h1 v8 fun v9 =>
pInt .eql v9 (.int .i64 (.ofNat 2)) fun v10 =>
joinC (α := AV × AV × AV × AV × Unit → AH → R) (fun s11 h12 =>
pPick s11.2.1 s11.1 (.bool false) fun v14 =>
pCond v14 (
pCall c (.fn 322 [] []) [s11.2.2.2.1, (.int .i64 (.ofNat 4)), (.int .i64 (.ofNat 7)), (.int .i64 (.negSucc 0))] h12 fun _ h16 =>
j5 (()) h16 []) (
pNil s11.2.2.2.1 fun v17 =>
pFieldA v17 11 fun v18 =>
pLoad1 h12 v18 fun v19 =>
pInt .eql v19 (.int .i64 (.ofNat 2)) fun v20 =>
pCond v20 (
pFieldA s11.2.2.1 0 fun v21 =>
pLoad1 h12 v21 fun v22 =>
pNil s11.2.2.2.1 fun v23 =>
pFieldA v23 16 fun v24 =>
pStore h12 v24 v22 1 fun h25 =>
pNil s11.2.2.2.1 fun v26 =>
pFieldA v26 11 fun v27 =>
pStore h25 v27 (.int .i64 (.ofNat 3)) 1 fun h28 =>
j5 (()) h28 []) (
pFieldA s11.2.2.1 4 fun v29 =>
pLoad1 h12 v29 fun v30 =>
pUn .not v30 fun v31 =>
pCond v31 (
pNil s11.2.2.2.1 fun v32 =>
pFieldA v32 11 fun v33 =>
pStore h12 v33 (.int .i64 (.ofNat 2)) 1 fun h34 =>
j5 (()) h34 []) (
pNil s11.2.2.2.1 fun v35 =>
pFieldA v35 16 fun v36 =>
pLoad1 h12 v36 fun v37 =>
pNil s11.2.2.2.1 fun v38 =>
pFieldA v38 6 fun v39 =>
pLoad1 h12 v39 fun v40 =>
pInt .eql v37 v40 fun v41 =>
pCond v41 (
pCall c (.fn 314 [] []) [s11.2.2.2.1] h12 fun _ h43 =>
j5 (()) h43 []) (
pCall c (.fn 323 [] []) [s11.2.2.2.1] h12 fun _ h45 =>
j5 (()) h45 []))))) fun j13 =>
pWant v10 true (
pFieldA v0 0 fun v46 =>
pLoad1 h1 v46 fun v47 =>
pInt .geq v47 (.int .u64 (.ofNat 4611686018427387903)) fun v48 =>
j13 (v48, v10, v0, a0, ()) h1) (
j13 (.undef, v10, v0, a0, ()) h1)
theorem S316_eq (c : CV) (a0 a1 : AV) (h : AH) : enterK Tryz.prog NN P316 c 316 [a0, a1] h = S316 c a0 a1 h := by kernel_rfl
def W316 (c : CV) (l : List AV) (h : AH) : R := match l with | [a0, a1] => S316 c a0 a1 h | _ => none
theorem W316_ok : WOk Tryz.prog 316 W316 := by
  intro c l h r e
  unfold W316 at e
  split at e
  · exact ⟨P316, by rw [S316_eq]; exact e⟩
  · cases e
/- (*quietus/commit.Commit).proved -/
def P317 : Pl := (.n none .z (.n (some []) .z .z))
def S317 (c : CV) (a0 a1 : AV) (h : AH) : R :=
pBox h 37 a1 fun v0 h1 =>
joinC (α := Unit → AH → List Nat → R) (fun _ h3 d4 =>
pLeave d4 h3 fun h6 =>
some ((.tup []), h6)) fun j5 =>
pFieldA v0 1 fun v7 =>
pLoad1 h1 v7 fun v8 =>
pCond v8 (
pLoadN h1 v0 3 fun v9 =>
pCall c (.fn 321 [] []) [a0, v9] h1 fun _ h11 =>
j5 (()) h11 []) (
pFieldA v0 0 fun v12 =>
pLoad1 h1 v12 fun v13 =>
pNil a0 fun v14 =>
pFieldA v14 7 fun v15 =>
pLoad1 h1 v15 fun v16 =>
pNil a0 fun v17 =>
pFieldA v17 12 fun v18 =>
pLoad1 h1 v18 fun v19 =>
pIdxS v16 v19 2 fun v20 =>
pFieldA v20 1 fun v21 =>
pLoad1 h1 v21 fun v22 =>
pInt .neq v13 v22 fun v23 =>
pCond v23 (
pCall c (.fn 322 [] []) [a0, (.int .i64 (.ofNat 5)), (.int .i64 (.ofNat 0)), (.int .i64 (.negSucc 0))] h1 fun _ h25 =>
j5 (()) h25 []) (
pNil a0 fun v26 =>
pFieldA v26 12 fun v27 =>
pLoad1 h1 v27 fun v28 =>
pInt .add v28 (.int .i64 (.ofNat 1)) fun v29 =>
pNil a0 fun v30 =>
pFieldA v30 12 fun v31 =>
pStore h1 v31 v29 1 fun h32 =>
pCall c (.fn 323 [] []) [a0] h32 fun _ h34 =>
j5 (()) h34 []))
theorem S317_eq (c : CV) (a0 a1 : AV) (h : AH) : enterK Tryz.prog NN P317 c 317 [a0, a1] h = S317 c a0 a1 h := by kernel_rfl
def W317 (c : CV) (l : List AV) (h : AH) : R := match l with | [a0, a1] => S317 c a0 a1 h | _ => none
theorem W317_ok : WOk Tryz.prog 317 W317 := by
  intro c l h r e
  unfold W317 at e
  split at e
  · exact ⟨P317, by rw [S317_eq]; exact e⟩
  · cases e
/- (*quietus/commit.Commit).write -/
def P318 : Pl := .z
def S318 (c : CV) (a0 : AV) (h : AH) : R :=
pNil a0 fun v0 =>
pFieldA v0 12 fun v1 =>
pLoad1 h v1 fun v2 =>
pNil a0 fun v3 =>
pFieldA v3 8 fun v4 =>
pLoad1 h v4 fun v5 =>
pLenS v5 fun v6 =>
pInt .eql v2 v6 fun v7 =>
pCond v7 (
pNil a0 fun v8 =>
pFieldA v8 12 fun v9 =>
pStore h v9 (.int .i64 (.ofNat 0)) 1 fun h10 =>
pNil a0 fun v11 =>
pFieldA v11 11 fun v12 =>
pStore h10 v12 (.int .i64 (.ofNat 6)) 1 fun h13 =>
pCall c (.fn 319 [] []) [a0] h13 fun _ h15 =>
some ((.tup []), h15)) (
some ((.tup []), h))
theorem S318_eq (c : CV) (a0 : AV) (h : AH) : enterK Tryz.prog NN P318 c 318 [a0] h = S318 c a0 h := by kernel_rfl
def W318 (c : CV) (l : List AV) (h : AH) : R := match l with | [a0] => S318 c a0 h | _ => none
theorem W318_ok : WOk Tryz.prog 318 W318 := by
  intro c l h r e
  unfold W318 at e
  split at e
  · exact ⟨P318, by rw [S318_eq]; exact e⟩
  · cases e
/- (*quietus/commit.Commit).give -/
def P319 : Pl := .z
def S319 (c : CV) (a0 : AV) (h : AH) : R :=
pNil a0 fun v0 =>
pFieldA v0 12 fun v1 =>
pLoad1 h v1 fun v2 =>
pNil a0 fun v3 =>
pFieldA v3 9 fun v4 =>
pLoad1 h v4 fun v5 =>
pLenS v5 fun v6 =>
pInt .eql v2 v6 fun v7 =>
pCond v7 (
pNil a0 fun v8 =>
pFieldA v8 0 fun v9 =>
pCall c (.fn 305 [] []) [v9, (.int .i64 (.ofNat 2)), (.int .i64 (.ofNat 0)), (.int .i64 (.negSucc 0))] h fun _ h11 =>
some ((.tup []), h11)) (
some ((.tup []), h))
theorem S319_eq (c : CV) (a0 : AV) (h : AH) : enterK Tryz.prog NN P319 c 319 [a0] h = S319 c a0 h := by kernel_rfl
def W319 (c : CV) (l : List AV) (h : AH) : R := match l with | [a0] => S319 c a0 h | _ => none
theorem W319_ok : WOk Tryz.prog 319 W319 := by
  intro c l h r e
  unfold W319 at e
  split at e
  · exact ⟨P319, by rw [S319_eq]; exact e⟩
  · cases e
/- (*quietus/commit.Commit).leave -/
def P320 : Pl := .z
def S320 (c : CV) (a0 : AV) (h : AH) : R :=
pNil a0 fun v0 =>
pFieldA v0 12 fun v1 =>
pLoad1 h v1 fun v2 =>
pNil a0 fun v3 =>
pFieldA v3 10 fun v4 =>
pLoad1 h v4 fun v5 =>
pLenS v5 fun v6 =>
pInt .eql v2 v6 fun v7 =>
pCond v7 (
pNil a0 fun v8 =>
pFieldA v8 0 fun v9 =>
pNil a0 fun v10 =>
pFieldA v10 18 fun v11 =>
pLoad1 h v11 fun v12 =>
pNil a0 fun v13 =>
pFieldA v13 20 fun v14 =>
pLoad1 h v14 fun v15 =>
pNil a0 fun v16 =>
pFieldA v16 19 fun v17 =>
pLoad1 h v17 fun v18 =>
pCall c (.fn 305 [] []) [v9, v12, v15, v18] h fun _ h20 =>
some ((.tup []), h20)) (
some ((.tup []), h))
theorem S320_eq (c : CV) (a0 : AV) (h : AH) : enterK Tryz.prog NN P320 c 320 [a0] h = S320 c a0 h := by kernel_rfl
def W320 (c : CV) (l : List AV) (h : AH) : R := match l with | [a0] => S320 c a0 h | _ => none
theorem W320_ok : WOk Tryz.prog 320 W320 := by
  intro c l h r e
  unfold W320 at e
  split at e
  · exact ⟨P320, by rw [S320_eq]; exact e⟩
  · cases e
/- (*quietus/commit.Commit).held -/
def P321 : Pl := .z
def S321 (c : CV) (a0 a1 : AV) (h : AH) : R :=
pBox h 37 a1 fun v0 h1 =>
pNil a0 fun v2 =>
pFieldA v2 0 fun v3 =>
pLoadN h1 v0 3 fun v4 =>
pCall c (.fn 307 [] []) [v3, v4] h1 fun v5 h6 =>
pUn .not v5 fun v7 =>
pCond v7 (
pFieldA v0 2 fun v8 =>
pLoad1 h6 v8 fun v9 =>
pCall c (.fn 322 [] []) [a0, (.int .i64 (.ofNat 5)), (.int .i64 (.ofNat 0)), v9] h6 fun _ h11 =>
some ((.tup []), h11)) (
some ((.tup []), h6))
theorem S321_eq (c : CV) (a0 a1 : AV) (h : AH) : enterK Tryz.prog NN P321 c 321 [a0, a1] h = S321 c a0 a1 h := by kernel_rfl
def W321 (c : CV) (l : List AV) (h : AH) : R := match l with | [a0, a1] => S321 c a0 a1 h | _ => none
theorem W321_ok : WOk Tryz.prog 321 W321 := by
  intro c l h r e
  unfold W321 at e
  split at e
  · exact ⟨P321, by rw [S321_eq]; exact e⟩
  · cases e
/- (*quietus/commit.Commit).stop -/
def P322 : Pl := .z
def S322 (c : CV) (a0 a1 a2 a3 : AV) (h : AH) : R :=
pNil a0 fun v0 =>
pFieldA v0 18 fun v1 =>
pStore h v1 a1 1 fun h2 =>
pNil a0 fun v3 =>
pFieldA v3 20 fun v4 =>
pStore h2 v4 a2 1 fun h5 =>
pNil a0 fun v6 =>
pFieldA v6 19 fun v7 =>
pStore h5 v7 a3 1 fun h8 =>
pNil a0 fun v9 =>
pFieldA v9 12 fun v10 =>
pStore h8 v10 (.int .i64 (.ofNat 0)) 1 fun h11 =>
pNil a0 fun v12 =>
pFieldA v12 11 fun v13 =>
pStore h11 v13 (.int .i64 (.ofNat 7)) 1 fun h14 =>
pCall c (.fn 320 [] []) [a0] h14 fun _ h16 =>
some ((.tup []), h16)
theorem S322_eq (c : CV) (a0 a1 a2 a3 : AV) (h : AH) : enterK Tryz.prog NN P322 c 322 [a0, a1, a2, a3] h = S322 c a0 a1 a2 a3 h := by kernel_rfl
def W322 (c : CV) (l : List AV) (h : AH) : R := match l with | [a0, a1, a2, a3] => S322 c a0 a1 a2 a3 h | _ => none
theorem W322_ok : WOk Tryz.prog 322 W322 := by
  intro c l h r e
  unfold W322 at e
  split at e
  · exact ⟨P322, by rw [S322_eq]; exact e⟩
  · cases e
/- (*quietus/commit.Commit).prove -/
def P323 : Pl := (.n none (.n none .z (.n none (.n (some [0]) .z .z) .z)) .z)
def S323 (c : CV) (a0 : AV) (h : AH) : R :=
pNil a0 fun v0 =>
pFieldA v0 11 fun v1 =>
pStore h v1 (.int .i64 (.ofNat 4)) 1 fun h2 =>
loopC (σ := AV × Unit) NN (fun i6 s3 h4 d5 =>
pNil s3.1 fun v7 =>
pFieldA v7 12 fun v8 =>
pLoad1 h4 v8 fun v9 =>
pNil s3.1 fun v10 =>
pFieldA v10 7 fun v11 =>
pLoad1 h4 v11 fun v12 =>
pLenS v12 fun v13 =>
pInt .lss v9 v13 fun v14 =>
pCond v14 (
pNil s3.1 fun v15 =>
pFieldA v15 9 fun v16 =>
pLoad1 h4 v16 fun v17 =>
pNil s3.1 fun v18 =>
pFieldA v18 7 fun v19 =>
pLoad1 h4 v19 fun v20 =>
pNil s3.1 fun v21 =>
pFieldA v21 12 fun v22 =>
pLoad1 h4 v22 fun v23 =>
pIdxS v20 v23 2 fun v24 =>
pFieldA v24 0 fun v25 =>
pLoad1 h4 v25 fun v26 =>
pCall c (.fn 324 [] []) [v17, v26] h4 fun v27 h28 =>
pExtract v27 0 fun v29 =>
pExtract v27 1 fun v30 =>
pUn .not v30 fun v31 =>
pCond v31 (
pLeave d5 h28 fun h32 =>
some ((.tup []), h32)) (
pNil s3.1 fun v33 =>
pFieldA v33 10 fun v34 =>
pLoad1 h28 v34 fun v35 =>
pIdxS v35 v29 3 fun v36 =>
pFieldA v36 0 fun v37 =>
pLoad1 h28 v37 fun v38 =>
pNil s3.1 fun v39 =>
pFieldA v39 7 fun v40 =>
pLoad1 h28 v40 fun v41 =>
pNil s3.1 fun v42 =>
pFieldA v42 12 fun v43 =>
pLoad1 h28 v43 fun v44 =>
pIdxS v41 v44 2 fun v45 =>
pFieldA v45 1 fun v46 =>
pLoad1 h28 v46 fun v47 =>
pInt .neq v38 v47 fun v48 =>
pCond v48 (
pCall c (.fn 322 [] []) [s3.1, (.int .i64 (.ofNat 5)), (.int .i64 (.ofNat 0)), (.int .i64 (.negSucc 0))] h28 fun _ h50 =>
pLeave d5 h50 fun h51 =>
some ((.tup []), h51)) (
pNil s3.1 fun v52 =>
pFieldA v52 12 fun v53 =>
pLoad1 h28 v53 fun v54 =>
pInt .add v54 (.int .i64 (.ofNat 1)) fun v55 =>
pNil s3.1 fun v56 =>
pFieldA v56 12 fun v57 =>
pStore h28 v57 v55 1 fun h58 =>
i6 (s3.1, ()) h58 d5))) (
pCall c (.fn 314 [] []) [s3.1] h4 fun _ h60 =>
pLeave d5 h60 fun h61 =>
some ((.tup []), h61))) (a0, ()) h2 []
theorem S323_eq (c : CV) (a0 : AV) (h : AH) : enterK Tryz.prog NN P323 c 323 [a0] h = S323 c a0 h := by kernel_rfl
def W323 (c : CV) (l : List AV) (h : AH) : R := match l with | [a0] => S323 c a0 h | _ => none
theorem W323_ok : WOk Tryz.prog 323 W323 := by
  intro c l h r e
  unfold W323 at e
  split at e
  · exact ⟨P323, by rw [S323_eq]; exact e⟩
  · cases e
/- slices.BinarySearch[[]int,int] -/
def P324 : Pl := (.n none .z (.n none .z (.n none .z (.n none (.n none (.n (some [8, 7, 6, 1, 0]) (.n none .z (.n (some [8, 7, 6, 1, 0]) .z .z)) .z) .z) (.n none (.r [[42, 35, 31, 7, 1, 0], [48, 42, 35, 31, 1], [50, 48, 42, 35, 31], [51, 42, 35, 31], [52, 35, 31]]) .z)))))
def S324 (c : CV) (a0 a1 : AV) (h : AH) : R :=
pLenS a0 fun v0 =>
loopC (σ := AV × AV × AV × AV × AV × Unit) NN (fun i4 s1 h2 d3 =>
pInt .lss s1.2.1 s1.1 fun v5 =>
pCond v5 (
joinC (α := AV × AV × AV × AV × AV × Unit → AH → List Nat → R) (fun s6 h7 d8 =>
i4 (s6.1, s6.2.1, s6.2.2.1, s6.2.2.2.1, s6.2.2.2.2.1, ()) h7 d8) fun j9 =>
pInt .add s1.2.1 s1.1 fun v10 =>
pConvI .u64 v10 fun v11 =>
pShift .shr v11 (.int .u64 (.ofNat 1)) fun v12 =>
pConvI .i64 v12 fun v13 =>
pIdxS s1.2.2.2.2.1 v13 1 fun v14 =>
pLoad1 h2 v14 fun v15 =>
pCall c (.fn 187 [] []) [v15, s1.2.2.2.1] h2 fun v16 h17 =>
pCond v16 (
pInt .add v13 (.int .i64 (.ofNat 1)) fun v18 =>
j9 (s1.1, v18, s1.2.2.1, s1.2.2.2.1, s1.2.2.2.2.1, ()) h17 d3) (
j9 (v13, s1.2.1, s1.2.2.1, s1.2.2.2.1, s1.2.2.2.2.1, ()) h17 d3)) (
pInt .lss s1.2.1 s1.2.2.1 fun v19 =>
joinC (α := AV × AV × AV × AV × AV × AV × Unit → AH → R) (fun s20 h21 =>
joinC (α := AV × AV × AV × AV × AV × Unit → AH → R) (fun s23 h24 =>
joinC (α := AV × AV × AV × AV × AV × Unit → AH → R) (fun s26 h27 =>
joinC (α := AV × AV × AV × AV × Unit → AH → R) (fun s29 h30 =>
joinC (α := AV × AV × AV × Unit → AH → R) (fun s32 h33 =>
pPick s32.2.1 s32.1 (.bool false) fun v35 =>
pLeave d3 h33 fun h36 =>
some ((.tup [s32.2.2.1, v35]), h36)) fun j34 =>
pWant s29.2.2.1 true (
pPick s29.2.1 (.bool true) s29.1 fun v37 =>
j34 (v37, s29.2.2.1, s29.2.2.2.1, ()) h30) (
j34 (.undef, s29.2.2.1, s29.2.2.2.1, ()) h30)) fun j31 =>
pWant s26.2.2.1 false (
pPick s26.2.1 s26.1 (.bool false) fun v38 =>
j31 (v38, s26.2.2.1, s26.2.2.2.1, s26.2.2.2.2.1, ()) h27) (
j31 (.undef, s26.2.2.1, s26.2.2.2.1, s26.2.2.2.2.1, ()) h27)) fun j28 =>
pWant s23.1 true (
pCall c (.fn 325 [] []) [s23.2.2.2.2.1] h24 fun v39 h40 =>
j28 (v39, s23.1, s23.2.1, s23.2.2.1, s23.2.2.2.1, ()) h40) (
j28 (.undef, s23.1, s23.2.1, s23.2.2.1, s23.2.2.2.1, ()) h24)) fun j25 =>
pWant s20.1 false (
pIdxS s20.2.2.2.2.2.1 s20.2.2.2.1 1 fun v41 =>
pLoad1 h21 v41 fun v42 =>
pCall c (.fn 325 [] []) [v42] h21 fun v43 h44 =>
j25 (v43, s20.1, s20.2.1, s20.2.2.1, s20.2.2.2.2.1, ()) h44) (
j25 (.undef, s20.1, s20.2.1, s20.2.2.1, s20.2.2.2.2.1, ()) h21)) fun j22 =>
pWant v19 true (
pIdxS s1.2.2.2.2.1 s1.2.1 1 fun v45 =>
pLoad1 h2 v45 fun v46 =>
pInt .eql v46 s1.2.2.2.1 fun v47 =>
j22 (v47, v19, s1.2.1, s1.2.1, s1.2.2.2.1, s1.2.2.2.2.1, ()) h2) (
j22 (.undef, v19, s1.2.1, s1.2.1, s1.2.2.2.1, s1.2.2.2.2.1, ()) h2))) (v0, (.int .i64 (.ofNat 0)), v0, a1, a0, ()) h []
theorem S324_eq (c : CV) (a0 a1 : AV) (h : AH) : enterK Tryz.prog NN P324 c 324 [a0, a1] h = S324 c a0 a1 h := by kernel_rfl
def W324 (c : CV) (l : List AV) (h : AH) : R := match l with | [a0, a1] => S324 c a0 a1 h | _ => none
theorem W324_ok : WOk Tryz.prog 324 W324 := by
  intro c l h r e
  unfold W324 at e
  split at e
  · exact ⟨P324, by rw [S324_eq]; exact e⟩
  · cases e
/- slices.isNaN[int] -/
def P325 : Pl := .z
def S325 (_ : CV) (a0 : AV) (h : AH) : R :=
pInt .neq a0 a0 fun v0 =>
some (v0, h)
theorem S325_eq (c : CV) (a0 : AV) (h : AH) : enterK Tryz.prog NN P325 c 325 [a0] h = S325 c a0 h := by kernel_rfl
def W325 (c : CV) (l : List AV) (h : AH) : R := match l with | [a0] => S325 c a0 h | _ => none
theorem W325_ok : WOk Tryz.prog 325 W325 := by
  intro c l h r e
  unfold W325 at e
  split at e
  · exact ⟨P325, by rw [S325_eq]; exact e⟩
  · cases e
/- (*quietus/levels.Levels).Cells: a round -/
def Q0 : Pl := (.n none .z .z)
def B0 (c : CV) (l : Nat) (v0 _ a1 : AV) (h : AH) : R :=
pBegin h l fun h100 =>
pCall c (.fn 109 [] []) [(.int .i64 (.ofNat 96))] h100 fun v101 h102 =>
pNil a1 fun v103 =>
pFieldA v103 0 fun v104 =>
pLoad1 h102 v104 fun v105 =>
pCall c (.fn 111 [] []) [v105] h102 fun v106 h107 =>
pCall c (.fn 110 [] []) [v101, v106] h107 fun _ h109 =>
pLoad1 h109 v0 fun v110 =>
pCall c (.fn 110 [] []) [v101, v110] h109 fun _ h112 =>
pCall c (.fn 111 [] []) [v101] h112 fun v113 h114 =>
pStore h114 v0 v113 1 fun h115 =>
pEndRound h115 l none
theorem B0_eq (c : CV) (l : Nat) (v0 a0 a1 : AV) (h : AH) : roundK Tryz.prog NN Q0 c 79 [1, 1, 0, 1, 0] [3] l [v0] [a0, a1] h = B0 c l v0 a0 a1 h := by kernel_rfl
def V0 (c : CV) (l : Nat) (x y : List AV) (h : AH) : R := match x, y with | [v0], [a0, a1] => B0 c l v0 a0 a1 h | _, _ => none
theorem V0_ok : VOk Tryz.prog 79 [1, 1, 0, 1, 0] [3] V0 := by
  intro c l x y h r e
  unfold V0 at e
  split at e
  · exact ⟨Q0, by rw [B0_eq]; exact e⟩
  · cases e
/- (*quietus/levels.Levels).Get: a round -/
def Q1 : Pl := (.n none .z .z)
def B1 (c : CV) (l : Nat) (v0 v1 v2 _ a1 : AV) (h : AH) : R :=
pBegin h l fun h100 =>
pNil a1 fun v101 =>
pFieldA v101 0 fun v102 =>
pLoad1 h100 v102 fun v103 =>
pLoad1 h100 v2 fun v104 =>
pCall c (.fn 177 [] []) [v103, v104] h100 fun v105 h106 =>
pExtract v105 0 fun v107 =>
pExtract v105 1 fun v108 =>
pCond v108 (
pStore h106 v1 v107 1 fun h109 =>
pStore h109 v0 (.bool true) 1 fun h110 =>
pEndRound h110 l (some .ret)) (
pEndRound h106 l none)
theorem B1_eq (c : CV) (l : Nat) (v0 v1 v2 a0 a1 : AV) (h : AH) : roundK Tryz.prog NN Q1 c 136 [1, 0, 1, 0] [5, 4, 3] l [v0, v1, v2] [a0, a1] h = B1 c l v0 v1 v2 a0 a1 h := by kernel_rfl
def V1 (c : CV) (l : Nat) (x y : List AV) (h : AH) : R := match x, y with | [v0, v1, v2], [a0, a1] => B1 c l v0 v1 v2 a0 a1 h | _, _ => none
theorem V1_ok : VOk Tryz.prog 136 [1, 0, 1, 0] [5, 4, 3] V1 := by
  intro c l x y h r e
  unfold V1 at e
  split at e
  · exact ⟨Q1, by rw [B1_eq]; exact e⟩
  · cases e
end
end Go.Proofs.YtdhleiohmbphgaaGreatDoor
