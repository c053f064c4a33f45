/- Printed by a program of mine: the bodies of the program's functions aa terms of the primitives of the abstract executor, each shown equal by the kernel. -/
import Derived.Test.YtpnlmmecgkjehaaGreatDoorProg
import Derived.Test.YtpnlmmecgkjehaaGreatDoorAe1
import Derived.KernelRfl
namespace Go.Proofs.YtpnlmmecgkjehaaGreatDoor
open Go Go.Ae
set_option maxRecDepth 100000
noncomputable section
/- (*quietus/tree.tree).lowered -/
def P155 : Pl := (.n none (.n (some [0]) (.n none (.n none (.r [[16, 11, 0]]) .z) (.n (some [0]) (.n none .z (.n none .z (.n none .z (.n none .z (.n none (.n none (.r [[90, 85, 4, 3, 2, 0]]) .z) .z))))) .z)) .z) .z)
def S155 (c : CV) (a0 : AV) (h : AH) : R :=
loopC (σ := AV × Unit) NN (fun i3 s0 h1 d2 =>
pNil s0.1 fun v4 =>
pFieldA v4 2 fun v5 =>
pLoad1 h1 v5 fun v6 =>
pLenS v6 fun v7 =>
pInt .gtr v7 (.int .i64 (.ofNat 0)) fun v8 =>
joinC (α := AV × AV × AV × Unit → AH → R) (fun s9 h10 =>
pPick s9.2.1 s9.1 (.bool false) fun v12 =>
pCond v12 (
joinC (α := AV × Unit → AH → List Nat → R) (fun s13 h14 d15 =>
i3 (s13.1, ()) h14 d15) fun j16 =>
pNil s9.2.2.1 fun v17 =>
pFieldA v17 2 fun v18 =>
pLoad1 h10 v18 fun v19 =>
pLenS v19 fun v20 =>
pNil s9.2.2.1 fun v21 =>
pFieldA v21 2 fun v22 =>
pLoad1 h10 v22 fun v23 =>
pInt .sub v20 (.int .i64 (.ofNat 1)) fun v24 =>
pIdxS v23 v24 2 fun v25 =>
pLoadN h10 v25 2 fun v26 =>
pBox h10 181 (.agg [(.int .i64 (.ofNat 0)), (.int .i64 (.ofNat 0))]) fun v27 h28 =>
pStore h28 v27 v26 2 fun h29 =>
pFieldA v27 0 fun v30 =>
pLoad1 h29 v30 fun v31 =>
pFieldA v27 1 fun v32 =>
pLoad1 h29 v32 fun v33 =>
pInt .sub (.int .i64 (.ofNat 1)) v33 fun v34 =>
pCall c (.fn 149 [] []) [s9.2.2.1, v31, v34] h29 fun v35 h36 =>
pCall c (.fn 151 [] []) [s9.2.2.1, v35] h36 fun v37 h38 =>
pCond v37 (
pFieldA v27 0 fun v39 =>
pLoad1 h38 v39 fun v40 =>
pFieldA v27 1 fun v41 =>
pLoad1 h38 v41 fun v42 =>
pCall c (.fn 177 [] []) [s9.2.2.1, v40, v42] h38 fun _ h44 =>
pCall c (.fn 153 [] []) [s9.2.2.1, v35, (.bool false)] h44 fun _ h46 =>
pFieldA v27 0 fun v47 =>
pLoad1 h46 v47 fun v48 =>
pCall c (.fn 153 [] []) [s9.2.2.1, v48, (.bool true)] h46 fun _ h50 =>
pInt .sub v20 (.int .i64 (.ofNat 1)) fun v51 =>
pCall c (.fn 108 [] []) [s9.2.2.1, v51, v35] h50 fun _ h53 =>
pNil s9.2.2.1 fun v54 =>
pFieldA v54 2 fun v55 =>
pLoad1 h53 v55 fun v56 =>
pInt .sub v20 (.int .i64 (.ofNat 1)) fun v57 =>
pFieldA v27 1 fun v58 =>
pLoad1 h53 v58 fun v59 =>
pBuild [(.int .i64 (.ofNat 0)), (.int .i64 (.ofNat 0))] [(0, 1, v35), (1, 1, v59)] fun v60 =>
pIdxS v56 v57 2 fun v61 =>
pStore h53 v61 v60 2 fun h62 =>
pNil s9.2.2.1 fun v63 =>
pFieldA v63 2 fun v64 =>
pLoad1 h62 v64 fun v65 =>
pLoadN h62 v27 2 fun v66 =>
pBuildS h62 181 [(.int .i64 (.ofNat 0)), (.int .i64 (.ofNat 0))] 1 [(0, 2, v66)] fun v67 h68 =>
pAppend h68 181 2 v65 v67 fun v69 h70 =>
pNil s9.2.2.1 fun v71 =>
pFieldA v71 2 fun v72 =>
pStore h70 v72 v69 1 fun h73 =>
j16 (s9.2.2.1, ()) h73 d2) (
pCall c (.fn 149 [] []) [s9.2.2.1, v35, (.int .i64 (.ofNat 0))] h38 fun v74 h75 =>
pCall c (.fn 151 [] []) [s9.2.2.1, v74] h75 fun v76 h77 =>
joinC (α := AV × AV × AV × AV × AV × AV × Unit → AH → R) (fun s78 h79 =>
pPick s78.2.1 (.bool true) s78.1 fun v81 =>
pCond v81 (
pLoadN h79 s78.2.2.2.1 2 fun v82 =>
pCall c (.fn 178 [] []) [s78.2.2.2.2.2.1, v82, s78.2.2.1] h79 fun _ h84 =>
pLeave d2 h84 fun h85 =>
some ((.tup []), h85)) (
pCall c (.fn 153 [] []) [s78.2.2.2.2.2.1, s78.2.2.1, (.bool true)] h79 fun _ h87 =>
pFieldA s78.2.2.2.1 0 fun v88 =>
pLoad1 h87 v88 fun v89 =>
pCall c (.fn 151 [] []) [s78.2.2.2.2.2.1, v89] h87 fun v90 h91 =>
pCond v90 (
pFieldA s78.2.2.2.1 0 fun v92 =>
pLoad1 h91 v92 fun v93 =>
pCall c (.fn 153 [] []) [s78.2.2.2.2.2.1, v93, (.bool false)] h91 fun _ h95 =>
pLeave d2 h95 fun h96 =>
some ((.tup []), h96)) (
pNil s78.2.2.2.2.2.1 fun v97 =>
pFieldA v97 2 fun v98 =>
pLoad1 h91 v98 fun v99 =>
pInt .sub s78.2.2.2.2.1 (.int .i64 (.ofNat 1)) fun v100 =>
pSlice h91 181 2 v99 none (some v100) fun v101 =>
pNil s78.2.2.2.2.2.1 fun v102 =>
pFieldA v102 2 fun v103 =>
pStore h91 v103 v101 1 fun h104 =>
j16 (s78.2.2.2.2.2.1, ()) h104 d2))) fun j80 =>
pWant v76 false (
pCall c (.fn 149 [] []) [s9.2.2.1, v35, (.int .i64 (.ofNat 1))] h77 fun v105 h106 =>
pCall c (.fn 151 [] []) [s9.2.2.1, v105] h106 fun v107 h108 =>
j80 (v107, v76, v35, v27, v20, s9.2.2.1, ()) h108) (
j80 (.undef, v76, v35, v27, v20, s9.2.2.1, ()) h77))) (
pLeave d2 h10 fun h109 =>
some ((.tup []), h109))) fun j11 =>
pWant v8 true (
pNil s0.1 fun v110 =>
pFieldA v110 0 fun v111 =>
pLoad1 h1 v111 fun v112 =>
pCall c (.fn 141 [] []) [v112] h1 fun v113 h114 =>
j11 (v113, v8, s0.1, ()) h114) (
j11 (.undef, v8, s0.1, ()) h1)) (a0, ()) h []
theorem S155_eq (c : CV) (a0 : AV) (h : AH) : enterK Tryz.prog NN P155 c 155 [a0] h = S155 c a0 h := by kernel_rfl
def W155 (c : CV) (l : List AV) (h : AH) : R := match l with | [a0] => S155 c a0 h | _ => none
theorem W155_ok : WOk Tryz.prog 155 W155 := by
  intro c l h r e
  unfold W155 at e
  split at e
  · exact ⟨P155, by rw [S155_eq]; exact e⟩
  · cases e
/- slices.Backward[[]*quietus/levels.level,*quietus/levels.level] -/
def P156 : Pl := .z
def S156 (_ : CV) (a0 : AV) (h : AH) : R :=
pBox h 77 a0 fun v0 h1 =>
some ((.fn 179 [] [v0]), h1)
theorem S156_eq (c : CV) (a0 : AV) (h : AH) : enterK Tryz.prog NN P156 c 156 [a0] h = S156 c a0 h := by kernel_rfl
def W156 (c : CV) (l : List AV) (h : AH) : R := match l with | [a0] => S156 c a0 h | _ => none
theorem W156_ok : WOk Tryz.prog 156 W156 := by
  intro c l h r e
  unfold W156 at e
  split at e
  · exact ⟨P156, by rw [S156_eq]; exact e⟩
  · cases e
/- (*quietus/writes.Writes).Get -/
def P157 : Pl := .z
def S157 (c : CV) (a0 a1 : AV) (h : AH) : R :=
pCall c (.fn 180 [] []) [a0, a1] h fun v0 h1 =>
pInt .geq v0 (.int .i64 (.ofNat 0)) fun v2 =>
pCond v2 (
pNil a0 fun v3 =>
pFieldA v3 1 fun v4 =>
pLoad1 h1 v4 fun v5 =>
pIdxS v5 v0 2 fun v6 =>
pFieldA v6 1 fun v7 =>
pLoad1 h1 v7 fun v8 =>
some ((.tup [v8, (.bool true)]), h1)) (
some ((.tup [(.int .u64 (.ofNat 0)), (.bool false)]), h1))
theorem S157_eq (c : CV) (a0 a1 : AV) (h : AH) : enterK Tryz.prog NN P157 c 157 [a0, a1] h = S157 c a0 a1 h := by kernel_rfl
def W157 (c : CV) (l : List AV) (h : AH) : R := match l with | [a0, a1] => S157 c a0 a1 h | _ => none
theorem W157_ok : WOk Tryz.prog 157 W157 := by
  intro c l h r e
  unfold W157 at e
  split at e
  · exact ⟨P157, by rw [S157_eq]; exact e⟩
  · cases e
/- (*quietus/levels.Levels).in -/
def P158 : Pl := .z
def S158 (_ : CV) (a0 : AV) (h : AH) : R :=
pNil a0 fun v0 =>
pFieldA v0 1 fun v1 =>
pLoad1 h v1 fun v2 =>
pNil a0 fun v3 =>
pFieldA v3 1 fun v4 =>
pLoad1 h v4 fun v5 =>
pLenS v5 fun v6 =>
pInt .sub v6 (.int .i64 (.ofNat 1)) fun v7 =>
pIdxS v2 v7 1 fun v8 =>
pLoad1 h v8 fun v9 =>
some (v9, h)
theorem S158_eq (c : CV) (a0 : AV) (h : AH) : enterK Tryz.prog NN P158 c 158 [a0] h = S158 c a0 h := by kernel_rfl
def W158 (c : CV) (l : List AV) (h : AH) : R := match l with | [a0] => S158 c a0 h | _ => none
theorem W158_ok : WOk Tryz.prog 158 W158 := by
  intro c l h r e
  unfold W158 at e
  split at e
  · exact ⟨P158, by rw [S158_eq]; exact e⟩
  · cases e
/- (*quietus/levels.Levels).Room -/
def P159 : Pl := (.n none .z (.n none .z (.n none (.n none .z (.n none (.n (some [15, 14, 13, 3]) .z .z) .z)) .z)))
def S159 (c : CV) (a0 : AV) (h : AH) : R :=
pNil a0 fun v0 =>
pFieldA v0 0 fun v1 =>
pLoad1 h v1 fun v2 =>
pNil a0 fun v3 =>
pFieldA v3 1 fun v4 =>
pLoad1 h v4 fun v5 =>
pLenS v5 fun v6 =>
loopC (σ := AV × AV × AV × AV × Unit) NN (fun i10 s7 h8 d9 =>
pInt .lss s7.1 s7.2.1 fun v11 =>
pCond v11 (
pIdxS s7.2.2.1 s7.1 1 fun v12 =>
pLoad1 h8 v12 fun v13 =>
pNil v13 fun v14 =>
pFieldA v14 0 fun v15 =>
pLoad1 h8 v15 fun v16 =>
pCall c (.fn 181 [] []) [v16] h8 fun v17 h18 =>
pInt .sub s7.2.2.2.1 v17 fun v19 =>
pInt .add s7.1 (.int .i64 (.ofNat 1)) fun v20 =>
i10 (v20, s7.2.1, s7.2.2.1, v19, ()) h18 d9) (
pLeave d9 h8 fun h21 =>
some (s7.2.2.2.1, h21))) ((.int .i64 (.ofNat 0)), v6, v5, v2, ()) h []
theorem S159_eq (c : CV) (a0 : AV) (h : AH) : enterK Tryz.prog NN P159 c 159 [a0] h = S159 c a0 h := by kernel_rfl
def W159 (c : CV) (l : List AV) (h : AH) : R := match l with | [a0] => S159 c a0 h | _ => none
theorem W159_ok : WOk Tryz.prog 159 W159 := by
  intro c l h r e
  unfold W159 at e
  split at e
  · exact ⟨P159, by rw [S159_eq]; exact e⟩
  · cases e
/- (*quietus/writes.Writes).Put -/
def P160 : Pl := (.n none .z (.n none (.n none (.r [[12, 10, 2, 1, 0]]) .z) .z))
def S160 (c : CV) (a0 a1 a2 : AV) (h : AH) : R :=
pInt .lss a1 (.int .i64 (.ofNat 1)) fun v0 =>
joinC (α := AV × AV × AV × AV × AV × Unit → AH → R) (fun s1 h2 =>
pPick s1.2.1 (.bool true) s1.1 fun v4 =>
pCond v4 (
some ((.int .i64 (.ofNat 2)), h2)) (
pCall c (.fn 180 [] []) [s1.2.2.2.2.1, s1.2.2.2.1] h2 fun v5 h6 =>
pInt .geq v5 (.int .i64 (.ofNat 0)) fun v7 =>
pCond v7 (
pNil s1.2.2.2.2.1 fun v8 =>
pFieldA v8 1 fun v9 =>
pLoad1 h6 v9 fun v10 =>
pIdxS v10 v5 2 fun v11 =>
pFieldA v11 1 fun v12 =>
pStore h6 v12 s1.2.2.1 1 fun h13 =>
some ((.int .i64 (.ofNat 0)), h13)) (
pNil s1.2.2.2.2.1 fun v14 =>
pFieldA v14 1 fun v15 =>
pLoad1 h6 v15 fun v16 =>
pLenS v16 fun v17 =>
pNil s1.2.2.2.2.1 fun v18 =>
pFieldA v18 0 fun v19 =>
pLoad1 h6 v19 fun v20 =>
pInt .geq v17 v20 fun v21 =>
pCond v21 (
some ((.int .i64 (.ofNat 5)), h6)) (
pNil s1.2.2.2.2.1 fun v22 =>
pFieldA v22 1 fun v23 =>
pLoad1 h6 v23 fun v24 =>
pBuild [(.int .i64 (.ofNat 0)), (.int .u64 (.ofNat 0))] [(0, 1, s1.2.2.2.1), (1, 1, s1.2.2.1)] fun v25 =>
pBuildS h6 74 [(.int .i64 (.ofNat 0)), (.int .u64 (.ofNat 0))] 1 [(0, 2, v25)] fun v26 h27 =>
pAppend h27 74 2 v24 v26 fun v28 h29 =>
pNil s1.2.2.2.2.1 fun v30 =>
pFieldA v30 1 fun v31 =>
pStore h29 v31 v28 1 fun h32 =>
some ((.int .i64 (.ofNat 0)), h32))))) fun j3 =>
pWant v0 false (
pInt .geq a1 (.int .i64 (.ofNat 256)) fun v33 =>
j3 (v33, v0, a2, a1, a0, ()) h) (
j3 (.undef, v0, a2, a1, a0, ()) h)
theorem S160_eq (c : CV) (a0 a1 a2 : AV) (h : AH) : enterK Tryz.prog NN P160 c 160 [a0, a1, a2] h = S160 c a0 a1 a2 h := by kernel_rfl
def W160 (c : CV) (l : List AV) (h : AH) : R := match l with | [a0, a1, a2] => S160 c a0 a1 a2 h | _ => none
theorem W160_ok : WOk Tryz.prog 160 W160 := by
  intro c l h r e
  unfold W160 at e
  split at e
  · exact ⟨P160, by rw [S160_eq]; exact e⟩
  · cases e
/- quietus/arena.Size -/
def P161 : Pl := (.n none .z (.n none (.n none (.r [[7, 5, 0]]) .z) .z))
def S161 (_ : CV) (a0 : AV) (h : AH) : R :=
pInt .lss a0 (.int .i64 (.ofNat 1)) fun v0 =>
joinC (α := AV × AV × AV × Unit → AH → R) (fun s1 h2 =>
pPick s1.2.1 (.bool true) s1.1 fun v4 =>
pCond v4 (
some ((.int .i64 (.ofNat 0)), h2)) (
pShift .shl (.int .i64 (.ofNat 1)) s1.2.2.1 fun v5 =>
some (v5, h2))) fun j3 =>
pWant v0 false (
pInt .gtr a0 (.int .i64 (.ofNat 4)) fun v6 =>
j3 (v6, v0, a0, ()) h) (
j3 (.undef, v0, a0, ()) h)
theorem S161_eq (c : CV) (a0 : AV) (h : AH) : enterK Tryz.prog NN P161 c 161 [a0] h = S161 c a0 h := by kernel_rfl
def W161 (c : CV) (l : List AV) (h : AH) : R := match l with | [a0] => S161 c a0 h | _ => none
theorem W161_ok : WOk Tryz.prog 161 W161 := by
  intro c l h r e
  unfold W161 at e
  split at e
  · exact ⟨P161, by rw [S161_eq]; exact e⟩
  · cases e
/- (*quietus/view.View).Size -/
def P162 : Pl := .z
def S162 (_ : CV) (a0 : AV) (h : AH) : R :=
pNil a0 fun v0 =>
pFieldA v0 0 fun v1 =>
pLoad1 h v1 fun v2 =>
pLenS v2 fun v3 =>
some (v3, h)
theorem S162_eq (c : CV) (a0 : AV) (h : AH) : enterK Tryz.prog NN P162 c 162 [a0] h = S162 c a0 h := by kernel_rfl
def W162 (c : CV) (l : List AV) (h : AH) : R := match l with | [a0] => S162 c a0 h | _ => none
theorem W162_ok : WOk Tryz.prog 162 W162 := by
  intro c l h r e
  unfold W162 at e
  split at e
  · exact ⟨P162, by rw [S162_eq]; exact e⟩
  · cases e
/- quietus/arena.header -/
def P163 : Pl := (.n none .z (.n none (.n none (.n none (.r [[9, 7, 0]]) (.n none .z (.n none (.r [[18, 16, 0]]) .z))) .z) .z))
def S163 (_ : CV) (a0 : AV) (h : AH) : R :=
pInt .geq a0 (.int .u64 (.ofNat 1)) fun v0 =>
joinC (α := AV × AV × AV × Unit → AH → R) (fun s1 h2 =>
pPick s1.2.1 s1.1 (.bool false) fun v4 =>
pCond v4 (
pConvI .i64 s1.2.2.1 fun v5 =>
some ((.tup [v5, (.bool false)]), h2)) (
pInt .geq s1.2.2.1 (.int .u64 (.ofNat 9)) fun v6 =>
joinC (α := AV × AV × AV × Unit → AH → R) (fun s7 h8 =>
pPick s7.2.1 s7.1 (.bool false) fun v10 =>
pCond v10 (
pInt .sub s7.2.2.1 (.int .u64 (.ofNat 8)) fun v11 =>
pConvI .i64 v11 fun v12 =>
some ((.tup [v12, (.bool true)]), h8)) (
some ((.tup [(.int .i64 (.ofNat 0)), (.bool false)]), h8))) fun j9 =>
pWant v6 true (
pInt .leq s1.2.2.1 (.int .u64 (.ofNat 12)) fun v13 =>
j9 (v13, v6, s1.2.2.1, ()) h2) (
j9 (.undef, v6, s1.2.2.1, ()) h2))) fun j3 =>
pWant v0 true (
pInt .leq a0 (.int .u64 (.ofNat 4)) fun v14 =>
j3 (v14, v0, a0, ()) h) (
j3 (.undef, v0, a0, ()) h)
theorem S163_eq (c : CV) (a0 : AV) (h : AH) : enterK Tryz.prog NN P163 c 163 [a0] h = S163 c a0 h := by kernel_rfl
def W163 (c : CV) (l : List AV) (h : AH) : R := match l with | [a0] => S163 c a0 h | _ => none
theorem W163_ok : WOk Tryz.prog 163 W163 := by
  intro c l h r e
  unfold W163 at e
  split at e
  · exact ⟨P163, by rw [S163_eq]; exact e⟩
  · cases e
/- (*quietus/levels.Levels).Take -/
def P164 : Pl := (.n none .z (.n none .z (.n none .z (.n none (.n none .z (.n none (.n (some [20, 19, 18, 5, 0]) .z .z) .z)) .z))))
def S164 (c : CV) (a0 a1 : AV) (h : AH) : R :=
pCall c (.fn 48 [] []) [(.int .i64 (.ofNat 96))] h fun v0 h1 =>
pCall c (.fn 158 [] []) [a0] h1 fun v2 h3 =>
pNil v2 fun v4 =>
pFieldA v4 0 fun v5 =>
pLoad1 h3 v5 fun v6 =>
pCall c (.fn 168 [] []) [v6] h3 fun v7 h8 =>
pCall c (.fn 167 [] []) [v0, v7] h8 fun _ h10 =>
pLenS a1 fun v11 =>
loopC (σ := AV × AV × AV × AV × AV × Unit) NN (fun i15 s12 h13 d14 =>
pInt .lss s12.1 s12.2.1 fun v16 =>
pCond v16 (
pIdxS s12.2.2.1 s12.1 2 fun v17 =>
pLoadN h13 v17 2 fun v18 =>
pBox h13 74 (.agg [(.int .i64 (.ofNat 0)), (.int .u64 (.ofNat 0))]) fun v19 h20 =>
pStore h20 v19 v18 2 fun h21 =>
pFieldA v19 0 fun v22 =>
pLoad1 h21 v22 fun v23 =>
pFieldA v19 1 fun v24 =>
pLoad1 h21 v24 fun v25 =>
pCall c (.fn 117 [] []) [s12.2.2.2.2.1, v23, v25] h21 fun v26 h27 =>
pInt .neq v26 (.int .i64 (.ofNat 0)) fun v28 =>
pCond v28 (
pCall c (.fn 158 [] []) [s12.2.2.2.2.1] h27 fun v29 h30 =>
pNil v29 fun v31 =>
pFieldA v31 0 fun v32 =>
pStore h30 v32 s12.2.2.2.1 1 fun h33 =>
pLeave d14 h33 fun h34 =>
some (v26, h34)) (
pInt .add s12.1 (.int .i64 (.ofNat 1)) fun v35 =>
i15 (v35, s12.2.1, s12.2.2.1, s12.2.2.2.1, s12.2.2.2.2.1, ()) h27 d14)) (
pLeave d14 h13 fun h36 =>
some ((.int .i64 (.ofNat 0)), h36))) ((.int .i64 (.ofNat 0)), v11, a1, v0, a0, ()) h10 []
theorem S164_eq (c : CV) (a0 a1 : AV) (h : AH) : enterK Tryz.prog NN P164 c 164 [a0, a1] h = S164 c a0 a1 h := by kernel_rfl
def W164 (c : CV) (l : List AV) (h : AH) : R := match l with | [a0, a1] => S164 c a0 a1 h | _ => none
theorem W164_ok : WOk Tryz.prog 164 W164 := by
  intro c l h r e
  unfold W164 at e
  split at e
  · exact ⟨P164, by rw [S164_eq]; exact e⟩
  · cases e
/- (*quietus/levels.Levels).Free -/
def P165 : Pl := .z
def S165 (c : CV) (a0 a1 : AV) (h : AH) : R :=
pCall c (.fn 158 [] []) [a0] h fun v0 h1 =>
pNil v0 fun v2 =>
pFieldA v2 1 fun v3 =>
pLoad1 h1 v3 fun v4 =>
pBuildS h1 3 [(.int .i64 (.ofNat 0))] 1 [(0, 1, a1)] fun v5 h6 =>
pAppend h6 3 1 v4 v5 fun v7 h8 =>
pNil v0 fun v9 =>
pFieldA v9 1 fun v10 =>
pStore h8 v10 v7 1 fun h11 =>
some ((.tup []), h11)
theorem S165_eq (c : CV) (a0 a1 : AV) (h : AH) : enterK Tryz.prog NN P165 c 165 [a0, a1] h = S165 c a0 a1 h := by kernel_rfl
def W165 (c : CV) (l : List AV) (h : AH) : R := match l with | [a0, a1] => S165 c a0 a1 h | _ => none
theorem W165_ok : WOk Tryz.prog 165 W165 := by
  intro c l h r e
  unfold W165 at e
  split at e
  · exact ⟨P165, by rw [S165_eq]; exact e⟩
  · cases e
/- (*quietus/levels.Levels).Open -/
def P166 : Pl := (.n none .z (.n none .z (.n none (.r [[]]) .z)))
def S166 (c : CV) (a0 : AV) (h : AH) : R :=
pNil a0 fun v0 =>
pFieldA v0 1 fun v1 =>
pLoad1 h v1 fun v2 =>
pLenS v2 fun v3 =>
pInt .geq v3 (.int .i64 (.ofNat 6)) fun v4 =>
pCond v4 (
some ((.int .i64 (.ofNat 9)), h)) (
joinC (α := Unit → AH → R) (fun _ h6 =>
some ((.int .i64 (.ofNat 0)), h6)) fun j7 =>
pNil a0 fun v8 =>
pFieldA v8 1 fun v9 =>
pLoad1 h v9 fun v10 =>
pCall c (.fn 32 [] []) [] h fun v11 h12 =>
pBuildS h12 75 [.nilp] 1 [(0, 1, v11)] fun v13 h14 =>
pAppend h14 75 1 v10 v13 fun v15 h16 =>
pNil a0 fun v17 =>
pFieldA v17 1 fun v18 =>
pStore h16 v18 v15 1 fun h19 =>
pChk v9 none v10 h h12 h.nx <|
j7 (()) h19)
theorem S166_eq (c : CV) (a0 : AV) (h : AH) : enterK Tryz.prog NN P166 c 166 [a0] h = S166 c a0 h := by kernel_rfl
def W166 (c : CV) (l : List AV) (h : AH) : R := match l with | [a0] => S166 c a0 h | _ => none
theorem W166_ok : WOk Tryz.prog 166 W166 := by
  intro c l h r e
  unfold W166 at e
  split at e
  · exact ⟨P166, by rw [S166_eq]; exact e⟩
  · cases e
/- (*quietus/writes.Writes).Take -/
def P167 : Pl := (.n none .z (.n none .z (.n none (.n none .z (.n none (.n (some [13, 12, 11, 5, 0]) .z .z) .z)) .z)))
def S167 (c : CV) (a0 a1 : AV) (h : AH) : R :=
pCall c (.fn 168 [] []) [a0] h fun v0 h1 =>
pLenS a1 fun v2 =>
loopC (σ := AV × AV × AV × AV × AV × Unit) NN (fun i6 s3 h4 d5 =>
pInt .lss s3.1 s3.2.1 fun v7 =>
pCond v7 (
pIdxS s3.2.2.1 s3.1 2 fun v8 =>
pLoadN h4 v8 2 fun v9 =>
pBox h4 74 (.agg [(.int .i64 (.ofNat 0)), (.int .u64 (.ofNat 0))]) fun v10 h11 =>
pStore h11 v10 v9 2 fun h12 =>
pFieldA v10 0 fun v13 =>
pLoad1 h12 v13 fun v14 =>
pFieldA v10 1 fun v15 =>
pLoad1 h12 v15 fun v16 =>
pCall c (.fn 160 [] []) [s3.2.2.2.2.1, v14, v16] h12 fun v17 h18 =>
pInt .neq v17 (.int .i64 (.ofNat 0)) fun v19 =>
pCond v19 (
pNil s3.2.2.2.2.1 fun v20 =>
pFieldA v20 1 fun v21 =>
pStore h18 v21 s3.2.2.2.1 1 fun h22 =>
pLeave d5 h22 fun h23 =>
some (v17, h23)) (
pInt .add s3.1 (.int .i64 (.ofNat 1)) fun v24 =>
i6 (v24, s3.2.1, s3.2.2.1, s3.2.2.2.1, s3.2.2.2.2.1, ()) h18 d5)) (
pLeave d5 h4 fun h25 =>
some ((.int .i64 (.ofNat 0)), h25))) ((.int .i64 (.ofNat 0)), v2, a1, v0, a0, ()) h1 []
theorem S167_eq (c : CV) (a0 a1 : AV) (h : AH) : enterK Tryz.prog NN P167 c 167 [a0, a1] h = S167 c a0 a1 h := by kernel_rfl
def W167 (c : CV) (l : List AV) (h : AH) : R := match l with | [a0, a1] => S167 c a0 a1 h | _ => none
theorem W167_ok : WOk Tryz.prog 167 W167 := by
  intro c l h r e
  unfold W167 at e
  split at e
  · exact ⟨P167, by rw [S167_eq]; exact e⟩
  · cases e
/- (*quietus/writes.Writes).All -/
def P168 : Pl := .z
def S168 (c : CV) (a0 : AV) (h : AH) : R :=
pNil a0 fun v0 =>
pFieldA v0 1 fun v1 =>
pLoad1 h v1 fun v2 =>
pCall c (.fn 182 [] []) [v2] h fun v3 h4 =>
some (v3, h4)
theorem S168_eq (c : CV) (a0 : AV) (h : AH) : enterK Tryz.prog NN P168 c 168 [a0] h = S168 c a0 h := by kernel_rfl
def W168 (c : CV) (l : List AV) (h : AH) : R := match l with | [a0] => S168 c a0 h | _ => none
theorem W168_ok : WOk Tryz.prog 168 W168 := by
  intro c l h r e
  unfold W168 at e
  split at e
  · exact ⟨P168, by rw [S168_eq]; exact e⟩
  · cases e
/- internal/strconv.log10Pow2 -/
def P169 : Pl := .z
def S169 (_ : CV) (a0 : AV) (h : AH) : R :=
pInt .mul a0 (.int .i64 (.ofNat 78913)) fun v0 =>
pShift .shr v0 (.int .u64 (.ofNat 18)) fun v1 =>
some (v1, h)
theorem S169_eq (c : CV) (a0 : AV) (h : AH) : enterK Tryz.prog NN P169 c 169 [a0] h = S169 c a0 h := by kernel_rfl
def W169 (c : CV) (l : List AV) (h : AH) : R := match l with | [a0] => S169 c a0 h | _ => none
theorem W169_ok : WOk Tryz.prog 169 W169 := by
  intro c l h r e
  unfold W169 at e
  split at e
  · exact ⟨P169, by rw [S169_eq]; exact e⟩
  · cases e
/- math/bits.Len64 -/
def P170 : Pl := (.n none .z (.n (some [2, 0]) .z (.n (some [2, 0]) .z (.n (some [2, 0]) .z .z))))
def S170 (_ : CV) (a0 : AV) (h : AH) : R :=
joinC (α := AV × AV × Unit → AH → List Nat → R) (fun s0 h1 d2 =>
joinC (α := AV × AV × Unit → AH → List Nat → R) (fun s4 h5 d6 =>
joinC (α := AV × AV × Unit → AH → List Nat → R) (fun s8 h9 d10 =>
pConvI .u8 s8.2.1 fun v12 =>
pIdxStr (.str [0, 1, 2, 2, 3, 3, 3, 3, 4, 4, 4, 4, 4, 4, 4, 4, 5, 5, 5, 5, 5, 5, 5, 5, 5, 5, 5, 5, 5, 5, 5, 5, 6, 6, 6, 6, 6, 6, 6, 6, 6, 6, 6, 6, 6, 6, 6, 6, 6, 6, 6, 6, 6, 6, 6, 6, 6, 6, 6, 6, 6, 6, 6, 6, 7, 7, 7, 7, 7, 7, 7, 7, 7, 7, 7, 7, 7, 7, 7, 7, 7, 7, 7, 7, 7, 7, 7, 7, 7, 7, 7, 7, 7, 7, 7, 7, 7, 7, 7, 7, 7, 7, 7, 7, 7, 7, 7, 7, 7, 7, 7, 7, 7, 7, 7, 7, 7, 7, 7, 7, 7, 7, 7, 7, 7, 7, 7, 7, 8, 8, 8, 8, 8, 8, 8, 8, 8, 8, 8, 8, 8, 8, 8, 8, 8, 8, 8, 8, 8, 8, 8, 8, 8, 8, 8, 8, 8, 8, 8, 8, 8, 8, 8, 8, 8, 8, 8, 8, 8, 8, 8, 8, 8, 8, 8, 8, 8, 8, 8, 8, 8, 8, 8, 8, 8, 8, 8, 8, 8, 8, 8, 8, 8, 8, 8, 8, 8, 8, 8, 8, 8, 8, 8, 8, 8, 8, 8, 8, 8, 8, 8, 8, 8, 8, 8, 8, 8, 8, 8, 8, 8, 8, 8, 8, 8, 8, 8, 8, 8, 8, 8, 8, 8, 8, 8, 8, 8, 8, 8, 8, 8, 8, 8, 8, 8, 8, 8, 8, 8, 8, 8, 8, 8, 8, 8, 8]) v12 fun v13 =>
pConvI .i64 v13 fun v14 =>
pInt .add s8.1 v14 fun v15 =>
pLeave d10 h9 fun h16 =>
some (v15, h16)) fun j11 =>
pInt .geq s4.2.1 (.int .u64 (.ofNat 256)) fun v17 =>
pCond v17 (
pShift .shr s4.2.1 (.int .u64 (.ofNat 8)) fun v18 =>
pInt .add s4.1 (.int .i64 (.ofNat 8)) fun v19 =>
j11 (v19, v18, ()) h5 d6) (
j11 (s4.1, s4.2.1, ()) h5 d6)) fun j7 =>
pInt .geq s0.2.1 (.int .u64 (.ofNat 65536)) fun v20 =>
pCond v20 (
pShift .shr s0.2.1 (.int .u64 (.ofNat 16)) fun v21 =>
pInt .add s0.1 (.int .i64 (.ofNat 16)) fun v22 =>
j7 (v22, v21, ()) h1 d2) (
j7 (s0.1, s0.2.1, ()) h1 d2)) fun j3 =>
pInt .geq a0 (.int .u64 (.ofNat 4294967296)) fun v23 =>
pCond v23 (
pShift .shr a0 (.int .u64 (.ofNat 32)) fun v24 =>
j3 ((.int .i64 (.ofNat 32)), v24, ()) h []) (
j3 ((.int .i64 (.ofNat 0)), a0, ()) h [])
theorem S170_eq (c : CV) (a0 : AV) (h : AH) : enterK Tryz.prog NN P170 c 170 [a0] h = S170 c a0 h := by kernel_rfl
def W170 (c : CV) (l : List AV) (h : AH) : R := match l with | [a0] => S170 c a0 h | _ => none
theorem W170_ok : WOk Tryz.prog 170 W170 := by
  intro c l h r e
  unfold W170 at e
  split at e
  · exact ⟨P170, by rw [S170_eq]; exact e⟩
  · cases e
/- internal/strconv.bool2[int] -/
def P171 : Pl := .z
def S171 (_ : CV) (a0 : AV) (h : AH) : R :=
pCond a0 (
some ((.int .i64 (.ofNat 1)), h)) (
some ((.int .i64 (.ofNat 0)), h))
theorem S171_eq (c : CV) (a0 : AV) (h : AH) : enterK Tryz.prog NN P171 c 171 [a0] h = S171 c a0 h := by kernel_rfl
def W171 (c : CV) (l : List AV) (h : AH) : R := match l with | [a0] => S171 c a0 h | _ => none
theorem W171_ok : WOk Tryz.prog 171 W171 := by
  intro c l h r e
  unfold W171 at e
  split at e
  · exact ⟨P171, by rw [S171_eq]; exact e⟩
  · cases e
/- internal/strconv.isPowerOfTwo -/
def P172 : Pl := .z
def S172 (_ : CV) (a0 : AV) (h : AH) : R :=
pInt .sub a0 (.int .i64 (.ofNat 1)) fun v0 =>
pInt .and a0 v0 fun v1 =>
pInt .eql v1 (.int .i64 (.ofNat 0)) fun v2 =>
some (v2, h)
theorem S172_eq (c : CV) (a0 : AV) (h : AH) : enterK Tryz.prog NN P172 c 172 [a0] h = S172 c a0 h := by kernel_rfl
def W172 (c : CV) (l : List AV) (h : AH) : R := match l with | [a0] => S172 c a0 h | _ => none
theorem W172_ok : WOk Tryz.prog 172 W172 := by
  intro c l h r e
  unfold W172 at e
  split at e
  · exact ⟨P172, by rw [S172_eq]; exact e⟩
  · cases e
/- math/bits.TrailingZeros -/
def P173 : Pl := .z
def S173 (c : CV) (a0 : AV) (h : AH) : R :=
pCond (.bool false) (
pConvI .u32 a0 fun v0 =>
pCall c (.fn 183 [] []) [v0] h fun v1 h2 =>
some (v1, h2)) (
pCall c (.fn 184 [] []) [a0] h fun v3 h4 =>
some (v3, h4))
theorem S173_eq (c : CV) (a0 : AV) (h : AH) : enterK Tryz.prog NN P173 c 173 [a0] h = S173 c a0 h := by kernel_rfl
def W173 (c : CV) (l : List AV) (h : AH) : R := match l with | [a0] => S173 c a0 h | _ => none
theorem W173_ok : WOk Tryz.prog 173 W173 := by
  intro c l h r e
  unfold W173 at e
  split at e
  · exact ⟨P173, by rw [S173_eq]; exact e⟩
  · cases e
/- (*quietus/levels.Levels).Cells -/
def P174 : Pl := (.n none .z (.n none .z (.n none (.n none .z (.n none (.n (some [3]) .z .z) .z)) .z)))
def S174 (c : CV) (a0 : AV) (h : AH) : R :=
pBox h 44 .nils fun v0 h1 =>
pNil a0 fun v2 =>
pFieldA v2 1 fun v3 =>
pLoad1 h1 v3 fun v4 =>
pCall c (.fn 156 [] []) [v4] h1 fun v5 h6 =>
pCallF c v5 [.yield (h6.new .dfd).nx] ((h6.new .dfd).new (.loop .ready none 174 [1, 1, 0, 1, 0] [3] [v0] h6.nx)) fun _ h7 =>
pEndLoop h7 (h6.new .dfd).nx fun p9 h8 =>
pNone p9 (
pLoad1 h8 v0 fun v10 =>
pLeave (h6.nx :: []) h8 fun h11 =>
some (v10, h11)) <|
none
theorem S174_eq (c : CV) (a0 : AV) (h : AH) : enterK Tryz.prog NN P174 c 174 [a0] h = S174 c a0 h := by kernel_rfl
def W174 (c : CV) (l : List AV) (h : AH) : R := match l with | [a0] => S174 c a0 h | _ => none
theorem W174_ok : WOk Tryz.prog 174 W174 := by
  intro c l h r e
  unfold W174 at e
  split at e
  · exact ⟨P174, by rw [S174_eq]; exact e⟩
  · cases e
/- (*quietus/levels.Levels).Frees -/
def P175 : Pl := (.n none .z (.n none .z (.n none (.n none .z (.n none (.n (some [11, 10, 9, 3]) .z .z) .z)) .z)))
def S175 (_ : CV) (a0 : AV) (h : AH) : R :=
pNil a0 fun v0 =>
pFieldA v0 1 fun v1 =>
pLoad1 h v1 fun v2 =>
pLenS v2 fun v3 =>
loopC (σ := AV × AV × AV × AV × Unit) NN (fun i7 s4 h5 d6 =>
pInt .lss s4.1 s4.2.1 fun v8 =>
pCond v8 (
pIdxS s4.2.2.1 s4.1 1 fun v9 =>
pLoad1 h5 v9 fun v10 =>
pNil v10 fun v11 =>
pFieldA v11 1 fun v12 =>
pLoad1 h5 v12 fun v13 =>
pAppend h5 3 1 s4.2.2.2.1 v13 fun v14 h15 =>
pInt .add s4.1 (.int .i64 (.ofNat 1)) fun v16 =>
i7 (v16, s4.2.1, s4.2.2.1, v14, ()) h15 d6) (
pLeave d6 h5 fun h17 =>
some (s4.2.2.2.1, h17))) ((.int .i64 (.ofNat 0)), v3, v2, .nils, ()) h []
theorem S175_eq (c : CV) (a0 : AV) (h : AH) : enterK Tryz.prog NN P175 c 175 [a0] h = S175 c a0 h := by kernel_rfl
def W175 (c : CV) (l : List AV) (h : AH) : R := match l with | [a0] => S175 c a0 h | _ => none
theorem W175_ok : WOk Tryz.prog 175 W175 := by
  intro c l h r e
  unfold W175 at e
  split at e
  · exact ⟨P175, by rw [S175_eq]; exact e⟩
  · cases e
/- (*quietus/draft.Draft).Name -/
def P176 : Pl := .z
def S176 (c : CV) (a0 a1 : AV) (h : AH) : R :=
pInt .geq a1 (.int .u64 (.ofNat 2147483648)) fun v0 =>
pCond v0 (
pCall c (.fn 143 [] []) [a0, (.int .i64 (.ofNat 2))] h fun _ h2 =>
some ((.int .i64 (.ofNat 0)), h2)) (
pConvI .i64 a1 fun v3 =>
some (v3, h))
theorem S176_eq (c : CV) (a0 a1 : AV) (h : AH) : enterK Tryz.prog NN P176 c 176 [a0, a1] h = S176 c a0 a1 h := by kernel_rfl
def W176 (c : CV) (l : List AV) (h : AH) : R := match l with | [a0, a1] => S176 c a0 a1 h | _ => none
theorem W176_ok : WOk Tryz.prog 176 W176 := by
  intro c l h r e
  unfold W176 at e
  split at e
  · exact ⟨P176, by rw [S176_eq]; exact e⟩
  · cases e
/- (*quietus/tree.tree).turn -/
def P177 : Pl := .z
def S177 (c : CV) (a0 a1 a2 : AV) (h : AH) : R :=
pInt .sub (.int .i64 (.ofNat 1)) a2 fun v0 =>
pCall c (.fn 149 [] []) [a0, a1, v0] h fun v1 h2 =>
pInt .sub (.int .i64 (.ofNat 1)) a2 fun v3 =>
pCall c (.fn 149 [] []) [a0, v1, a2] h2 fun v4 h5 =>
pCall c (.fn 150 [] []) [a0, a1, v3, v4] h5 fun _ h7 =>
pCall c (.fn 150 [] []) [a0, v1, a2, a1] h7 fun _ h9 =>
some (v1, h9)
theorem S177_eq (c : CV) (a0 a1 a2 : AV) (h : AH) : enterK Tryz.prog NN P177 c 177 [a0, a1, a2] h = S177 c a0 a1 a2 h := by kernel_rfl
def W177 (c : CV) (l : List AV) (h : AH) : R := match l with | [a0, a1, a2] => S177 c a0 a1 a2 h | _ => none
theorem W177_ok : WOk Tryz.prog 177 W177 := by
  intro c l h r e
  unfold W177 at e
  split at e
  · exact ⟨P177, by rw [S177_eq]; exact e⟩
  · cases e
/- (*quietus/tree.tree).lent -/
def P178 : Pl := (.n none .z (.n (some [4, 2, 0]) .z .z))
def S178 (c : CV) (a0 a1 a2 : AV) (h : AH) : R :=
pBox h 181 a1 fun v0 h1 =>
joinC (α := AV × AV × AV × Unit → AH → List Nat → R) (fun s2 h3 d4 =>
pFieldA s2.1 0 fun v6 =>
pLoad1 h3 v6 fun v7 =>
pFieldA s2.1 1 fun v8 =>
pLoad1 h3 v8 fun v9 =>
pCall c (.fn 177 [] []) [s2.2.2.1, v7, v9] h3 fun _ h11 =>
pFieldA s2.1 0 fun v12 =>
pLoad1 h11 v12 fun v13 =>
pCall c (.fn 151 [] []) [s2.2.2.1, v13] h11 fun v14 h15 =>
pCall c (.fn 153 [] []) [s2.2.2.1, s2.2.1, v14] h15 fun _ h17 =>
pFieldA s2.1 0 fun v18 =>
pLoad1 h17 v18 fun v19 =>
pCall c (.fn 153 [] []) [s2.2.2.1, v19, (.bool false)] h17 fun _ h21 =>
pFieldA s2.1 1 fun v22 =>
pLoad1 h21 v22 fun v23 =>
pInt .sub (.int .i64 (.ofNat 1)) v23 fun v24 =>
pCall c (.fn 149 [] []) [s2.2.2.1, s2.2.1, v24] h21 fun v25 h26 =>
pCall c (.fn 153 [] []) [s2.2.2.1, v25, (.bool false)] h26 fun _ h28 =>
pNil s2.2.2.1 fun v29 =>
pFieldA v29 2 fun v30 =>
pLoad1 h28 v30 fun v31 =>
pLenS v31 fun v32 =>
pInt .sub v32 (.int .i64 (.ofNat 1)) fun v33 =>
pCall c (.fn 108 [] []) [s2.2.2.1, v33, s2.2.1] h28 fun _ h35 =>
pLeave d4 h35 fun h36 =>
some ((.tup []), h36)) fun j5 =>
pFieldA v0 1 fun v37 =>
pLoad1 h1 v37 fun v38 =>
pInt .sub (.int .i64 (.ofNat 1)) v38 fun v39 =>
pCall c (.fn 149 [] []) [a0, a2, v39] h1 fun v40 h41 =>
pCall c (.fn 151 [] []) [a0, v40] h41 fun v42 h43 =>
pUn .not v42 fun v44 =>
pCond v44 (
pFieldA v0 1 fun v45 =>
pLoad1 h43 v45 fun v46 =>
pInt .sub (.int .i64 (.ofNat 1)) v46 fun v47 =>
pCall c (.fn 177 [] []) [a0, a2, v47] h43 fun v48 h49 =>
pFieldA v0 0 fun v50 =>
pLoad1 h49 v50 fun v51 =>
pFieldA v0 1 fun v52 =>
pLoad1 h49 v52 fun v53 =>
pInt .sub (.int .i64 (.ofNat 1)) v53 fun v54 =>
pCall c (.fn 150 [] []) [a0, v51, v54, v48] h49 fun _ h56 =>
pCall c (.fn 153 [] []) [a0, v48, (.bool false)] h56 fun _ h58 =>
pCall c (.fn 153 [] []) [a0, a2, (.bool true)] h58 fun _ h60 =>
j5 (v0, v48, a0, ()) h60 []) (
j5 (v0, a2, a0, ()) h43 [])
theorem S178_eq (c : CV) (a0 a1 a2 : AV) (h : AH) : enterK Tryz.prog NN P178 c 178 [a0, a1, a2] h = S178 c a0 a1 a2 h := by kernel_rfl
def W178 (c : CV) (l : List AV) (h : AH) : R := match l with | [a0, a1, a2] => S178 c a0 a1 a2 h | _ => none
theorem W178_ok : WOk Tryz.prog 178 W178 := by
  intro c l h r e
  unfold W178 at e
  split at e
  · exact ⟨P178, by rw [S178_eq]; exact e⟩
  · cases e
/- slices.Backward[[]*quietus/levels.level,*quietus/levels.level]$1 -/
def P179 : Pl := (.n none .z (.n none (.n (some [3, 1, 0]) .z .z) .z))
def S179 (c : CV) (a0 a1 : AV) (h : AH) : R :=
pLoad1 h a1 fun v0 =>
pLenS v0 fun v1 =>
pInt .sub v1 (.int .i64 (.ofNat 1)) fun v2 =>
loopC (σ := AV × AV × AV × Unit) NN (fun i6 s3 h4 d5 =>
pInt .geq s3.1 (.int .i64 (.ofNat 0)) fun v7 =>
pCond v7 (
pLoad1 h4 s3.2.1 fun v8 =>
pIdxS v8 s3.1 1 fun v9 =>
pLoad1 h4 v9 fun v10 =>
pCall c s3.2.2.1 [s3.1, v10] h4 fun v11 h12 =>
pUn .not v11 fun v13 =>
pCond v13 (
pLeave d5 h12 fun h14 =>
some ((.tup []), h14)) (
pInt .sub s3.1 (.int .i64 (.ofNat 1)) fun v15 =>
i6 (v15, s3.2.1, s3.2.2.1, ()) h12 d5)) (
pLeave d5 h4 fun h16 =>
some ((.tup []), h16))) (v2, a1, a0, ()) h []
theorem S179_eq (c : CV) (a0 a1 : AV) (h : AH) : enterK Tryz.prog NN P179 c 179 [a0, a1] h = S179 c a0 a1 h := by kernel_rfl
def W179 (c : CV) (l : List AV) (h : AH) : R := match l with | [a0, a1] => S179 c a0 a1 h | _ => none
theorem W179_ok : WOk Tryz.prog 179 W179 := by
  intro c l h r e
  unfold W179 at e
  split at e
  · exact ⟨P179, by rw [S179_eq]; exact e⟩
  · cases e
/- (*quietus/writes.Writes).find -/
def P180 : Pl := .z
def S180 (c : CV) (a0 a1 : AV) (h : AH) : R :=
pBox h 3 a1 fun v0 h1 =>
pNil a0 fun v2 =>
pFieldA v2 1 fun v3 =>
pLoad1 h1 v3 fun v4 =>
pCall c (.fn 185 [] []) [v4, (.fn 186 [] [v0])] h1 fun v5 h6 =>
some (v5, h6)
theorem S180_eq (c : CV) (a0 a1 : AV) (h : AH) : enterK Tryz.prog NN P180 c 180 [a0, a1] h = S180 c a0 a1 h := by kernel_rfl
def W180 (c : CV) (l : List AV) (h : AH) : R := match l with | [a0, a1] => S180 c a0 a1 h | _ => none
theorem W180_ok : WOk Tryz.prog 180 W180 := by
  intro c l h r e
  unfold W180 at e
  split at e
  · exact ⟨P180, by rw [S180_eq]; exact e⟩
  · cases e
/- (*quietus/writes.Writes).Len -/
def P181 : Pl := .z
def S181 (_ : CV) (a0 : AV) (h : AH) : R :=
pNil a0 fun v0 =>
pFieldA v0 1 fun v1 =>
pLoad1 h v1 fun v2 =>
pLenS v2 fun v3 =>
some (v3, h)
theorem S181_eq (c : CV) (a0 : AV) (h : AH) : enterK Tryz.prog NN P181 c 181 [a0] h = S181 c a0 h := by kernel_rfl
def W181 (c : CV) (l : List AV) (h : AH) : R := match l with | [a0] => S181 c a0 h | _ => none
theorem W181_ok : WOk Tryz.prog 181 W181 := by
  intro c l h r e
  unfold W181 at e
  split at e
  · exact ⟨P181, by rw [S181_eq]; exact e⟩
  · cases e
/- slices.Clone[[]quietus/api.Cell,quietus/api.Cell] -/
def P182 : Pl := .z
def S182 (_ : CV) (a0 : AV) (h : AH) : R :=
pEq .slc false a0 .nils fun v0 =>
pCond v0 (
some (.nils, h)) (
pBuildS h 74 [(.int .i64 (.ofNat 0)), (.int .u64 (.ofNat 0))] 0 [] fun v1 h2 =>
pAppend h2 74 2 v1 a0 fun v3 h4 =>
some (v3, h4))
theorem S182_eq (c : CV) (a0 : AV) (h : AH) : enterK Tryz.prog NN P182 c 182 [a0] h = S182 c a0 h := by kernel_rfl
def W182 (c : CV) (l : List AV) (h : AH) : R := match l with | [a0] => S182 c a0 h | _ => none
theorem W182_ok : WOk Tryz.prog 182 W182 := by
  intro c l h r e
  unfold W182 at e
  split at e
  · exact ⟨P182, by rw [S182_eq]; exact e⟩
  · cases e
/- math/bits.TrailingZeros32 -/
def P183 : Pl := .z
def S183 (_ : CV) (a0 : AV) (h : AH) : R :=
pInt .eql a0 (.int .u32 (.ofNat 0)) fun v0 =>
pCond v0 (
some ((.int .i64 (.ofNat 32)), h)) (
pUn .neg a0 fun v1 =>
pInt .and a0 v1 fun v2 =>
pInt .mul v2 (.int .u32 (.ofNat 125613361)) fun v3 =>
pShift .shr v3 (.int .u64 (.ofNat 27)) fun _ =>
none /- op -/)
theorem S183_eq (c : CV) (a0 : AV) (h : AH) : enterK Tryz.prog NN P183 c 183 [a0] h = S183 c a0 h := by kernel_rfl
def W183 (c : CV) (l : List AV) (h : AH) : R := match l with | [a0] => S183 c a0 h | _ => none
theorem W183_ok : WOk Tryz.prog 183 W183 := by
  intro c l h r e
  unfold W183 at e
  split at e
  · exact ⟨P183, by rw [S183_eq]; exact e⟩
  · cases e
/- math/bits.TrailingZeros64 -/
def P184 : Pl := .z
def S184 (_ : CV) (a0 : AV) (h : AH) : R :=
pInt .eql a0 (.int .u64 (.ofNat 0)) fun v0 =>
pCond v0 (
some ((.int .i64 (.ofNat 64)), h)) (
pUn .neg a0 fun v1 =>
pInt .and a0 v1 fun v2 =>
pInt .mul v2 (.int .u64 (.ofNat 285870213051353865)) fun v3 =>
pShift .shr v3 (.int .u64 (.ofNat 58)) fun _ =>
none /- op -/)
theorem S184_eq (c : CV) (a0 : AV) (h : AH) : enterK Tryz.prog NN P184 c 184 [a0] h = S184 c a0 h := by kernel_rfl
def W184 (c : CV) (l : List AV) (h : AH) : R := match l with | [a0] => S184 c a0 h | _ => none
theorem W184_ok : WOk Tryz.prog 184 W184 := by
  intro c l h r e
  unfold W184 at e
  split at e
  · exact ⟨P184, by rw [S184_eq]; exact e⟩
  · cases e
/- slices.IndexFunc[[]quietus/api.Cell,quietus/api.Cell] -/
def P185 : Pl := (.n none .z (.n none (.n none .z (.n none (.n (some [8, 7, 1, 0]) .z .z) .z)) .z))
def S185 (c : CV) (a0 a1 : AV) (h : AH) : R :=
pLenS a0 fun v0 =>
loopC (σ := AV × AV × AV × AV × Unit) NN (fun i4 s1 h2 d3 =>
pInt .lss s1.1 s1.2.1 fun v5 =>
pCond v5 (
pIdxS s1.2.2.2.1 s1.1 2 fun v6 =>
pLoadN h2 v6 2 fun v7 =>
pCall c s1.2.2.1 [v7] h2 fun v8 h9 =>
pCond v8 (
pLeave d3 h9 fun h10 =>
some (s1.1, h10)) (
pInt .add s1.1 (.int .i64 (.ofNat 1)) fun v11 =>
i4 (v11, s1.2.1, s1.2.2.1, s1.2.2.2.1, ()) h9 d3)) (
pLeave d3 h2 fun h12 =>
some ((.int .i64 (.negSucc 0)), h12))) ((.int .i64 (.ofNat 0)), v0, a1, a0, ()) h []
theorem S185_eq (c : CV) (a0 a1 : AV) (h : AH) : enterK Tryz.prog NN P185 c 185 [a0, a1] h = S185 c a0 a1 h := by kernel_rfl
def W185 (c : CV) (l : List AV) (h : AH) : R := match l with | [a0, a1] => S185 c a0 a1 h | _ => none
theorem W185_ok : WOk Tryz.prog 185 W185 := by
  intro c l h r e
  unfold W185 at e
  split at e
  · exact ⟨P185, by rw [S185_eq]; exact e⟩
  · cases e
/- (*quietus/writes.Writes).find$1 -/
def P186 : Pl := .z
def S186 (_ : CV) (a0 a1 : AV) (h : AH) : R :=
pBox h 74 a0 fun v0 h1 =>
pFieldA v0 0 fun v2 =>
pLoad1 h1 v2 fun v3 =>
pLoad1 h1 a1 fun v4 =>
pInt .eql v3 v4 fun v5 =>
some (v5, h1)
theorem S186_eq (c : CV) (a0 a1 : AV) (h : AH) : enterK Tryz.prog NN P186 c 186 [a0, a1] h = S186 c a0 a1 h := by kernel_rfl
def W186 (c : CV) (l : List AV) (h : AH) : R := match l with | [a0, a1] => S186 c a0 a1 h | _ => none
theorem W186_ok : WOk Tryz.prog 186 W186 := by
  intro c l h r e
  unfold W186 at e
  split at e
  · exact ⟨P186, by rw [S186_eq]; exact e⟩
  · cases e
/- (*quietus/levels.Levels).Get: a round -/
def Q0 : Pl := (.n none .z .z)
def B0 (c : CV) (l : Nat) (v0 v1 v2 _ a1 : AV) (h : AH) : R :=
pBegin h l fun h100 =>
pNil a1 fun v101 =>
pFieldA v101 0 fun v102 =>
pLoad1 h100 v102 fun v103 =>
pLoad1 h100 v2 fun v104 =>
pCall c (.fn 157 [] []) [v103, v104] h100 fun v105 h106 =>
pExtract v105 0 fun v107 =>
pExtract v105 1 fun v108 =>
pCond v108 (
pStore h106 v1 v107 1 fun h109 =>
pStore h109 v0 (.bool true) 1 fun h110 =>
pEndRound h110 l (some .ret)) (
pEndRound h106 l none)
theorem B0_eq (c : CV) (l : Nat) (v0 v1 v2 a0 a1 : AV) (h : AH) : roundK Tryz.prog NN Q0 c 116 [1, 0, 1, 0] [5, 4, 3] l [v0, v1, v2] [a0, a1] h = B0 c l v0 v1 v2 a0 a1 h := by kernel_rfl
def V0 (c : CV) (l : Nat) (x y : List AV) (h : AH) : R := match x, y with | [v0, v1, v2], [a0, a1] => B0 c l v0 v1 v2 a0 a1 h | _, _ => none
theorem V0_ok : VOk Tryz.prog 116 [1, 0, 1, 0] [5, 4, 3] V0 := by
  intro c l x y h r e
  unfold V0 at e
  split at e
  · exact ⟨Q0, by rw [B0_eq]; exact e⟩
  · cases e
/- (*quietus/levels.Levels).Cells: a round -/
def Q1 : Pl := (.n none .z .z)
def B1 (c : CV) (l : Nat) (v0 _ a1 : AV) (h : AH) : R :=
pBegin h l fun h100 =>
pCall c (.fn 48 [] []) [(.int .i64 (.ofNat 96))] h100 fun v101 h102 =>
pNil a1 fun v103 =>
pFieldA v103 0 fun v104 =>
pLoad1 h102 v104 fun v105 =>
pCall c (.fn 168 [] []) [v105] h102 fun v106 h107 =>
pCall c (.fn 167 [] []) [v101, v106] h107 fun _ h109 =>
pLoad1 h109 v0 fun v110 =>
pCall c (.fn 167 [] []) [v101, v110] h109 fun _ h112 =>
pCall c (.fn 168 [] []) [v101] h112 fun v113 h114 =>
pStore h114 v0 v113 1 fun h115 =>
pEndRound h115 l none
theorem B1_eq (c : CV) (l : Nat) (v0 a0 a1 : AV) (h : AH) : roundK Tryz.prog NN Q1 c 174 [1, 1, 0, 1, 0] [3] l [v0] [a0, a1] h = B1 c l v0 a0 a1 h := by kernel_rfl
def V1 (c : CV) (l : Nat) (x y : List AV) (h : AH) : R := match x, y with | [v0], [a0, a1] => B1 c l v0 a0 a1 h | _, _ => none
theorem V1_ok : VOk Tryz.prog 174 [1, 1, 0, 1, 0] [3] V1 := by
  intro c l x y h r e
  unfold V1 at e
  split at e
  · exact ⟨Q1, by rw [B1_eq]; exact e⟩
  · cases e
end
end Go.Proofs.YtpnlmmecgkjehaaGreatDoor
