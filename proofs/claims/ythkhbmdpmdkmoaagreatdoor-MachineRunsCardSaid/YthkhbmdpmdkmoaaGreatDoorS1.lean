/- Printed by a program of mine: the bodies of the program's functions aa terms of the primitives of the abstract executor, each shown equal by the kernel. -/
import Derived.Test.YthkhbmdpmdkmoaaGreatDoorProg
import Derived.Test.YthkhbmdpmdkmoaaGreatDoorAe1
import Derived.KernelRfl
namespace Go.Proofs.YthkhbmdpmdkmoaaGreatDoor
open Go Go.Ae
set_option maxRecDepth 100000
noncomputable section
/- (*quietus/interp.Interp).call -/
def P187 : Pl := (.n none .z (.n none .z (.n none (.n none .z (.n none (.n none .z (.n none (.n none (.r [[4]]) .z) (.n none .z (.n none (.n none (.r [[4]]) .z) (.n none .z (.n none (.n none (.r [[4]]) .z) (.n none .z (.n none (.n none (.r [[4]]) .z) (.n none .z (.n none (.n none (.r [[4]]) .z) (.n none .z (.n none (.n none (.r [[4]]) .z) (.n none .z (.n none .z (.n none .z (.n none .z (.n none .z (.n none (.n none (.r [[4]]) .z) (.n none .z (.n none (.n none (.r [[4]]) .z) (.n none .z (.n none (.n none (.r [[4]]) .z) .z)))))))))))))))))))))) .z)) .z)))
def S187 (c : CV) (a0 a1 : AV) (h : AH) : R :=
pBox h 28 a1 fun v0 h1 =>
pFieldA v0 2 fun v2 =>
pLoad1 h1 v2 fun v3 =>
pInt .add (.int .i64 (.ofNat 6)) v3 fun v4 =>
pFieldA v0 3 fun v5 =>
pLoad1 h1 v5 fun v6 =>
pNil a0 fun v7 =>
pFieldA v7 6 fun v8 =>
pIdxP v8 v6 8 1 fun v9 =>
pLoad1 h1 v9 fun v10 =>
pFieldA v0 3 fun v11 =>
pLoad1 h1 v11 fun v12 =>
pInt .add v12 (.int .i64 (.ofNat 1)) fun v13 =>
pNil a0 fun v14 =>
pFieldA v14 6 fun v15 =>
pIdxP v15 v13 8 1 fun v16 =>
pLoad1 h1 v16 fun v17 =>
pFieldA v0 1 fun v18 =>
pLoad1 h1 v18 fun v19 =>
pInt .eql v19 (.int .i64 (.ofNat 1)) fun v20 =>
pCond v20 (
joinC (α := AV × Unit → AH → R) (fun s21 h22 =>
some (s21.1, h22)) fun j23 =>
pLoadN h1 v0 5 fun v24 =>
pCall c (.fn 207 [] []) [a0, v24] h1 fun v25 h26 =>
pNil a0 fun v27 =>
pFieldA v27 1 fun v28 =>
pLoad1 h26 v28 fun v29 =>
pCall c (.fn 208 [] []) [v29, v4, v10] h26 fun v30 h31 =>
pExtract v30 0 fun v32 =>
pExtract v30 1 fun v33 =>
pCall c v25 [v32, v33] h31 fun v34 h35 =>
pChk v28 none v29 h1 h26 h1.nx <|
j23 (v34, ()) h35) (
pInt .eql v19 (.int .i64 (.ofNat 2)) fun v36 =>
pCond v36 (
joinC (α := AV × Unit → AH → R) (fun s37 h38 =>
some (s37.1, h38)) fun j39 =>
pLoadN h1 v0 5 fun v40 =>
pCall c (.fn 207 [] []) [a0, v40] h1 fun v41 h42 =>
pNil a0 fun v43 =>
pFieldA v43 1 fun v44 =>
pLoad1 h42 v44 fun v45 =>
pCall c (.fn 209 [] []) [v45, v4, v10] h42 fun v46 h47 =>
pExtract v46 0 fun v48 =>
pExtract v46 1 fun v49 =>
pCall c v41 [v48, v49] h47 fun v50 h51 =>
pChk v44 none v45 h1 h42 h1.nx <|
j39 (v50, ()) h51) (
pInt .eql v19 (.int .i64 (.ofNat 3)) fun v52 =>
pCond v52 (
joinC (α := AV × Unit → AH → R) (fun s53 h54 =>
some (s53.1, h54)) fun j55 =>
pLoadN h1 v0 5 fun v56 =>
pCall c (.fn 207 [] []) [a0, v56] h1 fun v57 h58 =>
pNil a0 fun v59 =>
pFieldA v59 1 fun v60 =>
pLoad1 h58 v60 fun v61 =>
pCall c (.fn 210 [] []) [v61, v4, v10] h58 fun v62 h63 =>
pExtract v62 0 fun v64 =>
pExtract v62 1 fun v65 =>
pCall c v57 [v64, v65] h63 fun v66 h67 =>
pChk v60 none v61 h1 h58 h1.nx <|
j55 (v66, ()) h67) (
pInt .eql v19 (.int .i64 (.ofNat 4)) fun v68 =>
pCond v68 (
joinC (α := AV × Unit → AH → R) (fun s69 h70 =>
some (s69.1, h70)) fun j71 =>
pLoadN h1 v0 5 fun v72 =>
pCall c (.fn 207 [] []) [a0, v72] h1 fun v73 h74 =>
pNil a0 fun v75 =>
pFieldA v75 1 fun v76 =>
pLoad1 h74 v76 fun v77 =>
pCall c (.fn 211 [] []) [v77, v4, v10, v17] h74 fun v78 h79 =>
pExtract v78 0 fun v80 =>
pExtract v78 1 fun v81 =>
pCall c v73 [v80, v81] h79 fun v82 h83 =>
pChk v76 none v77 h1 h74 h1.nx <|
j71 (v82, ()) h83) (
pInt .eql v19 (.int .i64 (.ofNat 5)) fun v84 =>
pCond v84 (
joinC (α := AV × Unit → AH → R) (fun s85 h86 =>
some (s85.1, h86)) fun j87 =>
pLoadN h1 v0 5 fun v88 =>
pCall c (.fn 212 [] []) [a0, v88] h1 fun v89 h90 =>
pNil a0 fun v91 =>
pFieldA v91 1 fun v92 =>
pLoad1 h90 v92 fun v93 =>
pCall c (.fn 213 [] []) [v93, v4, v10] h90 fun v94 h95 =>
pExtract v94 0 fun v96 =>
pExtract v94 1 fun v97 =>
pExtract v94 2 fun v98 =>
pCall c v89 [v96, v97, v98] h95 fun v99 h100 =>
pChk v92 none v93 h1 h90 h1.nx <|
j87 (v99, ()) h100) (
pInt .eql v19 (.int .i64 (.ofNat 6)) fun v101 =>
pCond v101 (
joinC (α := AV × Unit → AH → R) (fun s102 h103 =>
some (s102.1, h103)) fun j104 =>
pLoadN h1 v0 5 fun v105 =>
pCall c (.fn 207 [] []) [a0, v105] h1 fun v106 h107 =>
pNil a0 fun v108 =>
pFieldA v108 1 fun v109 =>
pLoad1 h107 v109 fun v110 =>
pCall c (.fn 214 [] []) [v110, v4, v10] h107 fun v111 h112 =>
pExtract v111 0 fun v113 =>
pExtract v111 1 fun v114 =>
pCall c v106 [v113, v114] h112 fun v115 h116 =>
pChk v109 none v110 h1 h107 h1.nx <|
j104 (v115, ()) h116) (
pInt .eql v19 (.int .i64 (.ofNat 7)) fun v117 =>
pCond v117 (
pCall c (.fn 215 [] []) [a0, v4, v10] h1 fun v118 h119 =>
some (v118, h119)) (
pInt .eql v19 (.int .i64 (.ofNat 8)) fun v120 =>
pCond v120 (
pLoadN h1 v0 5 fun v121 =>
pCall c (.fn 216 [] []) [a0, v121, v4] h1 fun v122 h123 =>
some (v122, h123)) (
pInt .eql v19 (.int .i64 (.ofNat 9)) fun v124 =>
pCond v124 (
joinC (α := AV × Unit → AH → R) (fun s125 h126 =>
some (s125.1, h126)) fun j127 =>
pLoadN h1 v0 5 fun v128 =>
pCall c (.fn 207 [] []) [a0, v128] h1 fun v129 h130 =>
pNil a0 fun v131 =>
pFieldA v131 1 fun v132 =>
pLoad1 h130 v132 fun v133 =>
pCall c (.fn 217 [] []) [v133, v4, v10, v17] h130 fun v134 h135 =>
pExtract v134 0 fun v136 =>
pExtract v134 1 fun v137 =>
pCall c v129 [v136, v137] h135 fun v138 h139 =>
pChk v132 none v133 h1 h130 h1.nx <|
j127 (v138, ()) h139) (
pInt .eql v19 (.int .i64 (.ofNat 10)) fun v140 =>
pCond v140 (
joinC (α := AV × Unit → AH → R) (fun s141 h142 =>
some (s141.1, h142)) fun j143 =>
pLoadN h1 v0 5 fun v144 =>
pCall c (.fn 212 [] []) [a0, v144] h1 fun v145 h146 =>
pNil a0 fun v147 =>
pFieldA v147 1 fun v148 =>
pLoad1 h146 v148 fun v149 =>
pCall c (.fn 218 [] []) [v149, v4, v10] h146 fun v150 h151 =>
pExtract v150 0 fun v152 =>
pExtract v150 1 fun v153 =>
pExtract v150 2 fun v154 =>
pCall c v145 [v152, v153, v154] h151 fun v155 h156 =>
pChk v148 none v149 h1 h146 h1.nx <|
j143 (v155, ()) h156) (
pInt .eql v19 (.int .i64 (.ofNat 11)) fun v157 =>
pCond v157 (
joinC (α := AV × Unit → AH → R) (fun s158 h159 =>
some (s158.1, h159)) fun j160 =>
pLoadN h1 v0 5 fun v161 =>
pCall c (.fn 207 [] []) [a0, v161] h1 fun v162 h163 =>
pNil a0 fun v164 =>
pFieldA v164 1 fun v165 =>
pLoad1 h163 v165 fun v166 =>
pCall c (.fn 219 [] []) [v166, v4, v10] h163 fun v167 h168 =>
pExtract v167 0 fun v169 =>
pExtract v167 1 fun v170 =>
pCall c v162 [v169, v170] h168 fun v171 h172 =>
pChk v165 none v166 h1 h163 h1.nx <|
j160 (v171, ()) h172) (
pNil a0 fun v173 =>
pFieldA v173 1 fun v174 =>
pLoad1 h1 v174 fun v175 =>
pCall c (.fn 220 [] []) [v175, v4, v10, v17] h1 fun v176 h177 =>
pExtract v176 0 fun v178 =>
pExtract v176 1 fun v179 =>
pLoadN h177 v0 5 fun v180 =>
pCall c (.fn 212 [] []) [a0, v180] h177 fun v181 h182 =>
pLenS v178 fun v183 =>
pConvI .u64 v183 fun v184 =>
pCall c v181 [v184, (.bool true), v179] h182 fun v185 h186 =>
some (v185, h186))))))))))))
theorem S187_eq (c : CV) (a0 a1 : AV) (h : AH) : enterK Tryz.prog NN P187 c 187 [a0, a1] h = S187 c a0 a1 h := by kernel_rfl
def W187 (c : CV) (l : List AV) (h : AH) : R := match l with | [a0, a1] => S187 c a0 a1 h | _ => none
theorem W187_ok : WOk Tryz.prog 187 W187 := by
  intro c l h r e
  unfold W187 at e
  split at e
  · exact ⟨P187, by rw [S187_eq]; exact e⟩
  · cases e
/- (*quietus/interp.Interp).touch -/
def P188 : Pl := (.n none .z (.n none (.n none .z (.n none (.n none .z (.n none (.n none .z (.n none .z (.n none .z (.n (some [10]) .z .z)))) (.n none .z (.n none .z (.n none .z (.n none (.n none .z (.n none .z (.n (some [15]) .z .z))) .z)))))) .z)) .z))
def S188 (c : CV) (a0 a1 a2 a3 : AV) (h : AH) : R :=
pBox h 28 a1 fun v0 h1 =>
pFieldA v0 0 fun v2 =>
pLoad1 h1 v2 fun v3 =>
pInt .eql v3 (.int .i64 (.ofNat 8)) fun v4 =>
pCond v4 (
pFieldA v0 3 fun v5 =>
pLoad1 h1 v5 fun v6 =>
pCall c (.fn 221 [] []) [a3, v6] h1 fun v7 h8 =>
pExtract v7 0 fun v9 =>
pExtract v7 1 fun v10 =>
pInt .neq v10 (.int .i64 (.ofNat 0)) fun v11 =>
pCond v11 (
some (v10, h8)) (
pNil a0 fun v12 =>
pFieldA v12 1 fun v13 =>
pLoad1 h8 v13 fun v14 =>
pCall c (.fn 159 [] []) [v14, v9] h8 fun v15 h16 =>
pExtract v15 0 fun v17 =>
pExtract v15 1 fun v18 =>
joinC (α := AV × Unit → AH → List Nat → R) (fun s19 h20 d21 =>
pLeave d21 h20 fun h23 =>
some (s19.1, h23)) fun j22 =>
pInt .eql v18 (.int .i64 (.ofNat 0)) fun v24 =>
pCond v24 (
pNil a2 fun v25 =>
pStore h16 v25 v17 1 fun h26 =>
j22 (v18, ()) h26 []) (
j22 (v18, ()) h16 []))) (
pInt .eql v3 (.int .i64 (.ofNat 9)) fun v27 =>
pCond v27 (
pNil a2 fun v28 =>
pLoad1 h1 v28 fun v29 =>
pFieldA v0 3 fun v30 =>
pLoad1 h1 v30 fun v31 =>
pCall c (.fn 221 [] []) [v29, v31] h1 fun v32 h33 =>
pExtract v32 0 fun v34 =>
pExtract v32 1 fun v35 =>
pInt .neq v35 (.int .i64 (.ofNat 0)) fun v36 =>
pCond v36 (
some (v35, h33)) (
pNil a0 fun v37 =>
pFieldA v37 1 fun v38 =>
pLoad1 h33 v38 fun v39 =>
pCall c (.fn 222 [] []) [v39, v34, a3] h33 fun v40 h41 =>
some (v40, h41))) (
pInt .eql v3 (.int .i64 (.ofNat 10)) fun v42 =>
pCond v42 (
pInt .geq a3 (.int .u64 (.ofNat 2147483648)) fun v43 =>
pCond v43 (
some ((.int .i64 (.ofNat 3)), h1)) (
pNil a0 fun v44 =>
pFieldA v44 1 fun v45 =>
pLoad1 h1 v45 fun v46 =>
pConvI .i64 a3 fun v47 =>
pCall c (.fn 223 [] []) [v46, v47] h1 fun v48 h49 =>
pExtract v48 0 fun v50 =>
pExtract v48 1 fun v51 =>
joinC (α := AV × Unit → AH → List Nat → R) (fun s52 h53 d54 =>
pLeave d54 h53 fun h56 =>
some (s52.1, h56)) fun j55 =>
pInt .eql v51 (.int .i64 (.ofNat 0)) fun v57 =>
pCond v57 (
pConvI .u64 v50 fun v58 =>
pNil a2 fun v59 =>
pStore h49 v59 v58 1 fun h60 =>
j55 (v51, ()) h60 []) (
j55 (v51, ()) h49 []))) (
pNil a2 fun v61 =>
pLoad1 h1 v61 fun v62 =>
pInt .geq v62 (.int .u64 (.ofNat 2147483648)) fun v63 =>
pCond v63 (
some ((.int .i64 (.ofNat 2)), h1)) (
pNil a0 fun v64 =>
pFieldA v64 1 fun v65 =>
pLoad1 h1 v65 fun v66 =>
pNil a2 fun v67 =>
pLoad1 h1 v67 fun v68 =>
pConvI .i64 v68 fun v69 =>
pCall c (.fn 224 [] []) [v66, v69] h1 fun v70 h71 =>
some (v70, h71)))))
theorem S188_eq (c : CV) (a0 a1 a2 a3 : AV) (h : AH) : enterK Tryz.prog NN P188 c 188 [a0, a1, a2, a3] h = S188 c a0 a1 a2 a3 h := by kernel_rfl
def W188 (c : CV) (l : List AV) (h : AH) : R := match l with | [a0, a1, a2, a3] => S188 c a0 a1 a2 a3 h | _ => none
theorem W188_ok : WOk Tryz.prog 188 W188 := by
  intro c l h r e
  unfold W188 at e
  split at e
  · exact ⟨P188, by rw [S188_eq]; exact e⟩
  · cases e
/- (*quietus/interp.Interp).turn -/
def P189 : Pl := (.n none .z (.n none (.n none .z (.n none (.n (some [7, 6, 3, 0]) .z (.n none .z (.n (some [18, 6, 0]) .z .z))) .z)) .z))
def S189 (c : CV) (a0 a1 : AV) (h : AH) : R :=
pBox h 28 a1 fun v0 h1 =>
pFieldA v0 0 fun v2 =>
pLoad1 h1 v2 fun v3 =>
joinC (α := AV × AV × AV × AV × Unit → AH → List Nat → R) (fun s4 h5 d6 =>
pCond s4.1 (
pFieldA s4.2.2.1 0 fun v8 =>
pLoad1 h5 v8 fun v9 =>
pNil s4.2.2.2.1 fun v10 =>
pFieldA v10 15 fun v11 =>
pLoad1 h5 v11 fun v12 =>
pCall c (.fn 225 [] []) [s4.2.2.2.1, v9, v12] h5 fun v13 h14 =>
pLeave d6 h14 fun h15 =>
some (v13, h15)) (
joinC (α := AV × AV × AV × Unit → AH → List Nat → R) (fun s16 h17 d18 =>
pCond s16.1 (
pCall c (.fn 226 [] []) [s16.2.2.1] h17 fun _ h21 =>
pNil s16.2.2.1 fun v22 =>
pFieldA v22 1 fun v23 =>
pLoad1 h21 v23 fun v24 =>
pCall c (.fn 227 [] []) [v24] h21 fun v25 h26 =>
pLeave d18 h26 fun h27 =>
some (v25, h27)) (
pInt .eql s16.2.1 (.int .i64 (.ofNat 18)) fun v28 =>
pCond v28 (
pCall c (.fn 226 [] []) [s16.2.2.1] h17 fun _ h30 =>
pNil s16.2.2.1 fun v31 =>
pFieldA v31 2 fun v32 =>
pLoad1 h30 v32 fun v33 =>
pNil s16.2.2.1 fun v34 =>
pFieldA v34 15 fun v35 =>
pLoad1 h30 v35 fun v36 =>
pIdxS v33 v36 1 fun v37 =>
pLoad1 h30 v37 fun v38 =>
pInt .add v38 (.int .i64 (.ofNat 1)) fun v39 =>
pNil s16.2.2.1 fun v40 =>
pFieldA v40 16 fun v41 =>
pStore h30 v41 v39 1 fun h42 =>
pNil s16.2.2.1 fun v43 =>
pFieldA v43 1 fun v44 =>
pLoad1 h42 v44 fun v45 =>
pCall c (.fn 227 [] []) [v45] h42 fun v46 h47 =>
pLeave d18 h47 fun h48 =>
some (v46, h48)) (
pInt .eql s16.2.1 (.int .i64 (.ofNat 16)) fun v49 =>
pCond v49 (
pCall c (.fn 226 [] []) [s16.2.2.1] h17 fun v50 h51 =>
pCall c (.fn 228 [] []) [s16.2.2.1, v50] h51 fun _ h53 =>
pNil s16.2.2.1 fun v54 =>
pFieldA v54 2 fun v55 =>
pLoad1 h53 v55 fun v56 =>
pNil s16.2.2.1 fun v57 =>
pFieldA v57 15 fun v58 =>
pLoad1 h53 v58 fun v59 =>
pIdxS v56 v59 1 fun v60 =>
pLoad1 h53 v60 fun v61 =>
pInt .add v61 (.int .i64 (.ofNat 1)) fun v62 =>
pNil s16.2.2.1 fun v63 =>
pFieldA v63 16 fun v64 =>
pStore h53 v64 v62 1 fun h65 =>
pNil s16.2.2.1 fun v66 =>
pFieldA v66 1 fun v67 =>
pLoad1 h65 v67 fun v68 =>
pCall c (.fn 229 [] []) [v68] h65 fun v69 h70 =>
pLeave d18 h70 fun h71 =>
some (v69, h71)) (
pCall c (.fn 230 [] []) [s16.2.2.1] h17 fun v72 h73 =>
pLeave d18 h73 fun h74 =>
some (v72, h74))))) fun j19 =>
pInt .eql s4.2.1 (.int .i64 (.ofNat 15)) fun v75 =>
pCond v75 (
j19 (v75, s4.2.1, s4.2.2.2.1, ()) h5 d6) (
pInt .eql s4.2.1 (.int .i64 (.ofNat 19)) fun v76 =>
j19 (v76, s4.2.1, s4.2.2.2.1, ()) h5 d6))) fun j7 =>
pInt .eql v3 (.int .i64 (.ofNat 14)) fun v77 =>
pCond v77 (
j7 (v77, v3, v0, a0, ()) h1 []) (
pInt .eql v3 (.int .i64 (.ofNat 17)) fun v78 =>
j7 (v78, v3, v0, a0, ()) h1 [])
theorem S189_eq (c : CV) (a0 a1 : AV) (h : AH) : enterK Tryz.prog NN P189 c 189 [a0, a1] h = S189 c a0 a1 h := by kernel_rfl
def W189 (c : CV) (l : List AV) (h : AH) : R := match l with | [a0, a1] => S189 c a0 a1 h | _ => none
theorem W189_ok : WOk Tryz.prog 189 W189 := by
  intro c l h r e
  unfold W189 at e
  split at e
  · exact ⟨P189, by rw [S189_eq]; exact e⟩
  · cases e
/- (*quietus/view.View).Size -/
def P190 : Pl := .z
def S190 (_ : CV) (a0 : AV) (h : AH) : R :=
pNil a0 fun v0 =>
pFieldA v0 0 fun v1 =>
pLoad1 h v1 fun v2 =>
pLenS v2 fun v3 =>
some (v3, h)
theorem S190_eq (c : CV) (a0 : AV) (h : AH) : enterK Tryz.prog NN P190 c 190 [a0] h = S190 c a0 h := by kernel_rfl
def W190 (c : CV) (l : List AV) (h : AH) : R := match l with | [a0] => S190 c a0 h | _ => none
theorem W190_ok : WOk Tryz.prog 190 W190 := by
  intro c l h r e
  unfold W190 at e
  split at e
  · exact ⟨P190, by rw [S190_eq]; exact e⟩
  · cases e
/- quietus/arena.header -/
def P191 : Pl := (.n none .z (.n none (.n none (.n none (.r [[9, 7, 0]]) (.n none .z (.n none (.r [[18, 16, 0]]) .z))) .z) .z))
def S191 (_ : CV) (a0 : AV) (h : AH) : R :=
pInt .geq a0 (.int .u64 (.ofNat 1)) fun v0 =>
joinC (α := AV × AV × AV × Unit → AH → R) (fun s1 h2 =>
pPick s1.2.1 s1.1 (.bool false) fun v4 =>
pCond v4 (
pConvI .i64 s1.2.2.1 fun v5 =>
some ((.tup [v5, (.bool false)]), h2)) (
pInt .geq s1.2.2.1 (.int .u64 (.ofNat 9)) fun v6 =>
joinC (α := AV × AV × AV × Unit → AH → R) (fun s7 h8 =>
pPick s7.2.1 s7.1 (.bool false) fun v10 =>
pCond v10 (
pInt .sub s7.2.2.1 (.int .u64 (.ofNat 8)) fun v11 =>
pConvI .i64 v11 fun v12 =>
some ((.tup [v12, (.bool true)]), h8)) (
some ((.tup [(.int .i64 (.ofNat 0)), (.bool false)]), h8))) fun j9 =>
pWant v6 true (
pInt .leq s1.2.2.1 (.int .u64 (.ofNat 12)) fun v13 =>
j9 (v13, v6, s1.2.2.1, ()) h2) (
j9 (.undef, v6, s1.2.2.1, ()) h2))) fun j3 =>
pWant v0 true (
pInt .leq a0 (.int .u64 (.ofNat 4)) fun v14 =>
j3 (v14, v0, a0, ()) h) (
j3 (.undef, v0, a0, ()) h)
theorem S191_eq (c : CV) (a0 : AV) (h : AH) : enterK Tryz.prog NN P191 c 191 [a0] h = S191 c a0 h := by kernel_rfl
def W191 (c : CV) (l : List AV) (h : AH) : R := match l with | [a0] => S191 c a0 h | _ => none
theorem W191_ok : WOk Tryz.prog 191 W191 := by
  intro c l h r e
  unfold W191 at e
  split at e
  · exact ⟨P191, by rw [S191_eq]; exact e⟩
  · cases e
/- (*quietus/view.View).is -/
def P192 : Pl := (.n none .z (.n none (.r [[14, 7]]) .z))
def S192 (_ : CV) (a0 a1 : AV) (h : AH) : R :=
pInt .geq a1 (.int .i64 (.ofNat 1)) fun v0 =>
joinC (α := AV × AV × Unit → AH → R) (fun s1 h2 =>
pPick s1.2.1 s1.1 (.bool false) fun v4 =>
some (v4, h2)) fun j3 =>
pWant v0 true (
pNil a0 fun v5 =>
pFieldA v5 0 fun v6 =>
pLoad1 h v6 fun v7 =>
pLenS v7 fun v8 =>
pInt .lss a1 v8 fun v9 =>
j3 (v9, v0, ()) h) (
j3 (.undef, v0, ()) h)
theorem S192_eq (c : CV) (a0 a1 : AV) (h : AH) : enterK Tryz.prog NN P192 c 192 [a0, a1] h = S192 c a0 a1 h := by kernel_rfl
def W192 (c : CV) (l : List AV) (h : AH) : R := match l with | [a0, a1] => S192 c a0 a1 h | _ => none
theorem W192_ok : WOk Tryz.prog 192 W192 := by
  intro c l h r e
  unfold W192 at e
  split at e
  · exact ⟨P192, by rw [S192_eq]; exact e⟩
  · cases e
/- (*quietus/levels.Levels).Get -/
def P193 : Pl := (.n none .z (.n none (.n none .z (.n none (.n (some [5, 4, 3]) .z .z) .z)) .z))
def S193 (c : CV) (a0 a1 : AV) (h : AH) : R :=
pBox h 3 a1 fun v0 h1 =>
pBox h1 22 (.int .u64 (.ofNat 0)) fun v2 h3 =>
pBox h3 4 (.bool false) fun v4 h5 =>
pNil a0 fun v6 =>
pFieldA v6 1 fun v7 =>
pLoad1 h5 v7 fun v8 =>
pCall c (.fn 162 [] []) [v8] h5 fun v9 h10 =>
pCallF c v9 [.yield (h10.new .dfd).nx] ((h10.new .dfd).new (.loop .ready none 193 [1, 0, 1, 0] [5, 4, 3] [v4, v2, v0] h10.nx)) fun _ h11 =>
pEndLoop h11 (h10.new .dfd).nx fun p13 h12 =>
pNone p13 (
pStore h12 v2 (.int .u64 (.ofNat 0)) 1 fun h14 =>
pStore h14 v4 (.bool false) 1 fun h15 =>
pLeave (h10.nx :: []) h15 fun h16 =>
pLoad1 h16 v2 fun v17 =>
pLoad1 h16 v4 fun v18 =>
some ((.tup [v17, v18]), h16)) <|
pIs p13 .ret (
pLeave (h10.nx :: []) h12 fun h19 =>
pLoad1 h19 v2 fun v20 =>
pLoad1 h19 v4 fun v21 =>
some ((.tup [v20, v21]), h19)) <|
none
theorem S193_eq (c : CV) (a0 a1 : AV) (h : AH) : enterK Tryz.prog NN P193 c 193 [a0, a1] h = S193 c a0 a1 h := by kernel_rfl
def W193 (c : CV) (l : List AV) (h : AH) : R := match l with | [a0, a1] => S193 c a0 a1 h | _ => none
theorem W193_ok : WOk Tryz.prog 193 W193 := by
  intro c l h r e
  unfold W193 at e
  split at e
  · exact ⟨P193, by rw [S193_eq]; exact e⟩
  · cases e
/- (*quietus/levels.Levels).Take -/
def P194 : Pl := (.n none .z (.n none .z (.n none .z (.n none (.n none .z (.n none (.n (some [20, 19, 18, 5, 0]) .z .z) .z)) .z))))
def S194 (c : CV) (a0 a1 : AV) (h : AH) : R :=
pCall c (.fn 163 [] []) [(.int .i64 (.ofNat 96))] h fun v0 h1 =>
pCall c (.fn 232 [] []) [a0] h1 fun v2 h3 =>
pNil v2 fun v4 =>
pFieldA v4 0 fun v5 =>
pLoad1 h3 v5 fun v6 =>
pCall c (.fn 165 [] []) [v6] h3 fun v7 h8 =>
pCall c (.fn 164 [] []) [v0, v7] h8 fun _ h10 =>
pLenS a1 fun v11 =>
loopC (σ := AV × AV × AV × AV × AV × Unit) NN (fun i15 s12 h13 d14 =>
pInt .lss s12.1 s12.2.1 fun v16 =>
pCond v16 (
pIdxS s12.2.2.1 s12.1 2 fun v17 =>
pLoadN h13 v17 2 fun v18 =>
pBox h13 158 (.agg [(.int .i64 (.ofNat 0)), (.int .u64 (.ofNat 0))]) fun v19 h20 =>
pStore h20 v19 v18 2 fun h21 =>
pFieldA v19 0 fun v22 =>
pLoad1 h21 v22 fun v23 =>
pFieldA v19 1 fun v24 =>
pLoad1 h21 v24 fun v25 =>
pCall c (.fn 233 [] []) [s12.2.2.2.2.1, v23, v25] h21 fun v26 h27 =>
pInt .neq v26 (.int .i64 (.ofNat 0)) fun v28 =>
pCond v28 (
pCall c (.fn 232 [] []) [s12.2.2.2.2.1] h27 fun v29 h30 =>
pNil v29 fun v31 =>
pFieldA v31 0 fun v32 =>
pStore h30 v32 s12.2.2.2.1 1 fun h33 =>
pLeave d14 h33 fun h34 =>
some (v26, h34)) (
pInt .add s12.1 (.int .i64 (.ofNat 1)) fun v35 =>
i15 (v35, s12.2.1, s12.2.2.1, s12.2.2.2.1, s12.2.2.2.2.1, ()) h27 d14)) (
pLeave d14 h13 fun h36 =>
some ((.int .i64 (.ofNat 0)), h36))) ((.int .i64 (.ofNat 0)), v11, a1, v0, a0, ()) h10 []
theorem S194_eq (c : CV) (a0 a1 : AV) (h : AH) : enterK Tryz.prog NN P194 c 194 [a0, a1] h = S194 c a0 a1 h := by kernel_rfl
def W194 (c : CV) (l : List AV) (h : AH) : R := match l with | [a0, a1] => S194 c a0 a1 h | _ => none
theorem W194_ok : WOk Tryz.prog 194 W194 := by
  intro c l h r e
  unfold W194 at e
  split at e
  · exact ⟨P194, by rw [S194_eq]; exact e⟩
  · cases e
/- slices.Backward[[]*quietus/levels.level,*quietus/levels.level]$1 -/
def P195 : Pl := (.n none .z (.n none (.n (some [3, 1, 0]) .z .z) .z))
def S195 (c : CV) (a0 a1 : AV) (h : AH) : R :=
pLoad1 h a1 fun v0 =>
pLenS v0 fun v1 =>
pInt .sub v1 (.int .i64 (.ofNat 1)) fun v2 =>
loopC (σ := AV × AV × AV × Unit) NN (fun i6 s3 h4 d5 =>
pInt .geq s3.1 (.int .i64 (.ofNat 0)) fun v7 =>
pCond v7 (
pLoad1 h4 s3.2.1 fun v8 =>
pIdxS v8 s3.1 1 fun v9 =>
pLoad1 h4 v9 fun v10 =>
pCall c s3.2.2.1 [s3.1, v10] h4 fun v11 h12 =>
pUn .not v11 fun v13 =>
pCond v13 (
pLeave d5 h12 fun h14 =>
some ((.tup []), h14)) (
pInt .sub s3.1 (.int .i64 (.ofNat 1)) fun v15 =>
i6 (v15, s3.2.1, s3.2.2.1, ()) h12 d5)) (
pLeave d5 h4 fun h16 =>
some ((.tup []), h16))) (v2, a1, a0, ()) h []
theorem S195_eq (c : CV) (a0 a1 : AV) (h : AH) : enterK Tryz.prog NN P195 c 195 [a0, a1] h = S195 c a0 a1 h := by kernel_rfl
def W195 (c : CV) (l : List AV) (h : AH) : R := match l with | [a0, a1] => S195 c a0 a1 h | _ => none
theorem W195_ok : WOk Tryz.prog 195 W195 := by
  intro c l h r e
  unfold W195 at e
  split at e
  · exact ⟨P195, by rw [S195_eq]; exact e⟩
  · cases e
/- (*quietus/writes.Writes).Put -/
def P196 : Pl := (.n none .z (.n none (.n none (.r [[12, 10, 2, 1, 0]]) .z) .z))
def S196 (c : CV) (a0 a1 a2 : AV) (h : AH) : R :=
pInt .lss a1 (.int .i64 (.ofNat 1)) fun v0 =>
joinC (α := AV × AV × AV × AV × AV × Unit → AH → R) (fun s1 h2 =>
pPick s1.2.1 (.bool true) s1.1 fun v4 =>
pCond v4 (
some ((.int .i64 (.ofNat 2)), h2)) (
pCall c (.fn 234 [] []) [s1.2.2.2.2.1, s1.2.2.2.1] h2 fun v5 h6 =>
pInt .geq v5 (.int .i64 (.ofNat 0)) fun v7 =>
pCond v7 (
pNil s1.2.2.2.2.1 fun v8 =>
pFieldA v8 1 fun v9 =>
pLoad1 h6 v9 fun v10 =>
pIdxS v10 v5 2 fun v11 =>
pFieldA v11 1 fun v12 =>
pStore h6 v12 s1.2.2.1 1 fun h13 =>
some ((.int .i64 (.ofNat 0)), h13)) (
pNil s1.2.2.2.2.1 fun v14 =>
pFieldA v14 1 fun v15 =>
pLoad1 h6 v15 fun v16 =>
pLenS v16 fun v17 =>
pNil s1.2.2.2.2.1 fun v18 =>
pFieldA v18 0 fun v19 =>
pLoad1 h6 v19 fun v20 =>
pInt .geq v17 v20 fun v21 =>
pCond v21 (
some ((.int .i64 (.ofNat 5)), h6)) (
pNil s1.2.2.2.2.1 fun v22 =>
pFieldA v22 1 fun v23 =>
pLoad1 h6 v23 fun v24 =>
pBuild [(.int .i64 (.ofNat 0)), (.int .u64 (.ofNat 0))] [(0, 1, s1.2.2.2.1), (1, 1, s1.2.2.1)] fun v25 =>
pBuildS h6 158 [(.int .i64 (.ofNat 0)), (.int .u64 (.ofNat 0))] 1 [(0, 2, v25)] fun v26 h27 =>
pAppend h27 158 2 v24 v26 fun v28 h29 =>
pNil s1.2.2.2.2.1 fun v30 =>
pFieldA v30 1 fun v31 =>
pStore h29 v31 v28 1 fun h32 =>
some ((.int .i64 (.ofNat 0)), h32))))) fun j3 =>
pWant v0 false (
pInt .geq a1 (.int .i64 (.ofNat 256)) fun v33 =>
j3 (v33, v0, a2, a1, a0, ()) h) (
j3 (.undef, v0, a2, a1, a0, ()) h)
theorem S196_eq (c : CV) (a0 a1 a2 : AV) (h : AH) : enterK Tryz.prog NN P196 c 196 [a0, a1, a2] h = S196 c a0 a1 a2 h := by kernel_rfl
def W196 (c : CV) (l : List AV) (h : AH) : R := match l with | [a0, a1, a2] => S196 c a0 a1 a2 h | _ => none
theorem W196_ok : WOk Tryz.prog 196 W196 := by
  intro c l h r e
  unfold W196 at e
  split at e
  · exact ⟨P196, by rw [S196_eq]; exact e⟩
  · cases e
/- slices.pdqsortOrdered[int] -/
def P197 : Pl := (.n none .z (.n none .z (.n none (.n (some [9, 8, 3, 2, 1, 0]) (.n (some [9, 8, 3, 2, 1, 0]) (.n none .z (.n none .z (.n none .z (.n (some [10, 9, 8, 3, 2, 1, 0]) .z (.n none .z (.n (some [12, 11, 10, 9, 8, 3, 2, 1, 0]) .z (.n (some [11, 10, 9, 8, 3, 2, 1, 0]) (.n none (.r [[63, 62, 12, 11, 10, 9, 8, 3, 2, 1, 0], [67, 65, 11, 10, 9, 8, 3, 2, 1, 0]]) .z) (.n none (.n none (.r [[86, 75, 11, 10, 9, 8, 3, 2, 1, 0]]) .z) .z)))))))) .z) .z) .z)))
def S197 (c : CV) (a0 a1 a2 a3 : AV) (h : AH) : R :=
loopC (σ := AV × AV × AV × AV × AV × AV × Unit) NN (fun i3 s0 h1 d2 =>
joinC (α := AV × AV × AV × AV × AV × AV × Unit → AH → List Nat → R) (fun s4 h5 d6 =>
i3 (s4.1, s4.2.1, s4.2.2.1, s4.2.2.2.1, s4.2.2.2.2.1, s4.2.2.2.2.2.1, ()) h5 d6) fun j7 =>
pInt .sub s0.2.2.2.1 s0.2.2.2.2.1 fun v8 =>
pInt .leq v8 (.int .i64 (.ofNat 12)) fun v9 =>
pCond v9 (
pCall c (.fn 235 [] []) [s0.2.2.2.2.2.1, s0.2.2.2.2.1, s0.2.2.2.1] h1 fun _ h11 =>
pLeave d2 h11 fun h12 =>
some ((.tup []), h12)) (
pInt .eql s0.2.2.1 (.int .i64 (.ofNat 0)) fun v13 =>
pCond v13 (
pCall c (.fn 236 [] []) [s0.2.2.2.2.2.1, s0.2.2.2.2.1, s0.2.2.2.1] h1 fun _ h15 =>
pLeave d2 h15 fun h16 =>
some ((.tup []), h16)) (
joinC (α := AV × AV × AV × AV × AV × AV × AV × Unit → AH → List Nat → R) (fun s17 h18 d19 =>
pCall c (.fn 238 [] []) [s17.2.2.2.2.2.2.1, s17.2.2.2.2.2.1, s17.2.2.2.2.1] h18 fun v21 h22 =>
pExtract v21 0 fun v23 =>
pExtract v21 1 fun v24 =>
joinC (α := AV × AV × AV × AV × AV × AV × AV × AV × AV × Unit → AH → List Nat → R) (fun s25 h26 d27 =>
joinC (α := AV × AV × AV × AV × AV × AV × AV × AV × Unit → AH → List Nat → R) (fun s29 h30 d31 =>
pInt .gtr s29.2.2.2.2.2.2.1 (.int .i64 (.ofNat 0)) fun v33 =>
joinC (α := AV × AV × AV × AV × AV × AV × AV × AV × AV × AV × Unit → AH → R) (fun s34 h35 =>
pPick s34.2.1 s34.1 (.bool false) fun v37 =>
pCond v37 (
pCall c (.fn 242 [] []) [s34.2.2.2.2.2.2.2.2.2.1, s34.2.2.2.2.2.2.2.2.1, s34.2.2.2.2.2.2.2.1, s34.2.2.1] h35 fun v38 h39 =>
j7 (s34.2.2.2.2.1, s34.2.2.2.2.2.1, s34.2.2.2.2.2.2.1, s34.2.2.2.2.2.2.2.1, v38, s34.2.2.2.2.2.2.2.2.2.1, ()) h39 d31) (
pCall c (.fn 243 [] []) [s34.2.2.2.2.2.2.2.2.2.1, s34.2.2.2.2.2.2.2.2.1, s34.2.2.2.2.2.2.2.1, s34.2.2.1] h35 fun v40 h41 =>
pExtract v40 0 fun v42 =>
pExtract v40 1 fun v43 =>
pInt .sub v42 s34.2.2.2.2.2.2.2.2.1 fun v44 =>
pInt .sub s34.2.2.2.2.2.2.2.1 v42 fun v45 =>
pInt .quo s34.2.2.2.1 (.int .i64 (.ofNat 8)) fun v46 =>
pInt .lss v44 v45 fun v47 =>
pCond v47 (
pInt .geq v44 v46 fun v48 =>
pCall c (.fn 197 [] []) [s34.2.2.2.2.2.2.2.2.2.1, s34.2.2.2.2.2.2.2.2.1, v42, s34.2.2.2.2.2.2.1] h41 fun _ h50 =>
pInt .add v42 (.int .i64 (.ofNat 1)) fun v51 =>
j7 (v43, v48, s34.2.2.2.2.2.2.1, s34.2.2.2.2.2.2.2.1, v51, s34.2.2.2.2.2.2.2.2.2.1, ()) h50 d31) (
pInt .geq v45 v46 fun v52 =>
pInt .add v42 (.int .i64 (.ofNat 1)) fun v53 =>
pCall c (.fn 197 [] []) [s34.2.2.2.2.2.2.2.2.2.1, v53, s34.2.2.2.2.2.2.2.1, s34.2.2.2.2.2.2.1] h41 fun _ h55 =>
j7 (v43, v52, s34.2.2.2.2.2.2.1, v42, s34.2.2.2.2.2.2.2.2.1, s34.2.2.2.2.2.2.2.2.2.1, ()) h55 d31))) fun j36 =>
pWant v33 true (
pInt .sub s29.2.2.2.2.2.2.1 (.int .i64 (.ofNat 1)) fun v56 =>
pIdxS s29.2.2.2.2.2.2.2.1 v56 1 fun v57 =>
pLoad1 h30 v57 fun v58 =>
pIdxS s29.2.2.2.2.2.2.2.1 s29.1 1 fun v59 =>
pLoad1 h30 v59 fun v60 =>
pCall c (.fn 241 [] []) [v58, v60] h30 fun v61 h62 =>
pUn .not v61 fun v63 =>
j36 (v63, v33, s29.1, s29.2.1, s29.2.2.1, s29.2.2.2.1, s29.2.2.2.2.1, s29.2.2.2.2.2.1, s29.2.2.2.2.2.2.1, s29.2.2.2.2.2.2.2.1, ()) h62) (
j36 (.undef, v33, s29.1, s29.2.1, s29.2.2.1, s29.2.2.2.1, s29.2.2.2.2.1, s29.2.2.2.2.2.1, s29.2.2.2.2.2.2.1, s29.2.2.2.2.2.2.2.1, ()) h30)) fun j32 =>
joinC (α := AV × AV × AV × AV × AV × AV × AV × AV × AV × AV × AV × Unit → AH → R) (fun s64 h65 =>
pPick s64.2.1 s64.1 (.bool false) fun v67 =>
joinC (α := AV × AV × AV × AV × AV × AV × AV × AV × AV × AV × Unit → AH → R) (fun s68 h69 =>
pPick s68.2.1 s68.1 (.bool false) fun v71 =>
pCond v71 (
pCall c (.fn 240 [] []) [s68.2.2.2.2.2.2.2.2.2.1, s68.2.2.2.2.2.2.2.2.1, s68.2.2.2.2.2.2.2.1] h69 fun v72 h73 =>
pCond v72 (
pLeave d27 h73 fun h74 =>
some ((.tup []), h74)) (
j32 (s68.2.2.1, s68.2.2.2.1, s68.2.2.2.2.1, s68.2.2.2.2.2.1, s68.2.2.2.2.2.2.1, s68.2.2.2.2.2.2.2.1, s68.2.2.2.2.2.2.2.2.1, s68.2.2.2.2.2.2.2.2.2.1, ()) h73 d27)) (
j32 (s68.2.2.1, s68.2.2.2.1, s68.2.2.2.2.1, s68.2.2.2.2.2.1, s68.2.2.2.2.2.2.1, s68.2.2.2.2.2.2.2.1, s68.2.2.2.2.2.2.2.2.1, s68.2.2.2.2.2.2.2.2.2.1, ()) h69 d27)) fun j70 =>
pWant v67 true (
pInt .eql s64.2.2.1 (.int .i64 (.ofNat 1)) fun v75 =>
j70 (v75, v67, s64.2.2.2.1, s64.2.2.2.2.1, s64.2.2.2.2.2.1, s64.2.2.2.2.2.2.1, s64.2.2.2.2.2.2.2.1, s64.2.2.2.2.2.2.2.2.1, s64.2.2.2.2.2.2.2.2.2.1, s64.2.2.2.2.2.2.2.2.2.2.1, ()) h65) (
j70 (.undef, v67, s64.2.2.2.1, s64.2.2.2.2.1, s64.2.2.2.2.2.1, s64.2.2.2.2.2.2.1, s64.2.2.2.2.2.2.2.1, s64.2.2.2.2.2.2.2.2.1, s64.2.2.2.2.2.2.2.2.2.1, s64.2.2.2.2.2.2.2.2.2.2.1, ()) h65)) fun j66 =>
pWant s25.2.2.2.2.1 true (
j66 (s25.2.2.2.1, s25.2.2.2.2.1, s25.1, s25.2.1, s25.2.2.1, s25.2.2.2.1, s25.2.2.2.2.1, s25.2.2.2.2.2.1, s25.2.2.2.2.2.2.1, s25.2.2.2.2.2.2.2.1, s25.2.2.2.2.2.2.2.2.1, ()) h26) (
j66 (.undef, s25.2.2.2.2.1, s25.1, s25.2.1, s25.2.2.1, s25.2.2.2.1, s25.2.2.2.2.1, s25.2.2.2.2.2.1, s25.2.2.2.2.2.2.1, s25.2.2.2.2.2.2.2.1, s25.2.2.2.2.2.2.2.2.1, ()) h26)) fun j28 =>
pInt .eql v24 (.int .i64 (.ofNat 2)) fun v76 =>
pCond v76 (
pCall c (.fn 239 [] []) [s17.2.2.2.2.2.2.1, s17.2.2.2.2.2.1, s17.2.2.2.2.1] h22 fun _ h78 =>
pInt .sub s17.2.2.2.2.1 (.int .i64 (.ofNat 1)) fun v79 =>
pInt .sub v23 s17.2.2.2.2.2.1 fun v80 =>
pInt .sub v79 v80 fun v81 =>
j28 ((.int .i64 (.ofNat 1)), v81, s17.1, s17.2.1, s17.2.2.1, s17.2.2.2.1, s17.2.2.2.2.1, s17.2.2.2.2.2.1, s17.2.2.2.2.2.2.1, ()) h78 d19) (
j28 (v24, v23, s17.1, s17.2.1, s17.2.2.1, s17.2.2.2.1, s17.2.2.2.2.1, s17.2.2.2.2.2.1, s17.2.2.2.2.2.2.1, ()) h22 d19)) fun j20 =>
pUn .not s0.2.1 fun v82 =>
pCond v82 (
pCall c (.fn 237 [] []) [s0.2.2.2.2.2.1, s0.2.2.2.2.1, s0.2.2.2.1] h1 fun _ h84 =>
pInt .sub s0.2.2.1 (.int .i64 (.ofNat 1)) fun v85 =>
j20 (v8, s0.1, s0.2.1, v85, s0.2.2.2.1, s0.2.2.2.2.1, s0.2.2.2.2.2.1, ()) h84 d2) (
j20 (v8, s0.1, s0.2.1, s0.2.2.1, s0.2.2.2.1, s0.2.2.2.2.1, s0.2.2.2.2.2.1, ()) h1 d2)))) ((.bool true), (.bool true), a3, a2, a1, a0, ()) h []
theorem S197_eq (c : CV) (a0 a1 a2 a3 : AV) (h : AH) : enterK Tryz.prog NN P197 c 197 [a0, a1, a2, a3] h = S197 c a0 a1 a2 a3 h := by kernel_rfl
def W197 (c : CV) (l : List AV) (h : AH) : R := match l with | [a0, a1, a2, a3] => S197 c a0 a1 a2 a3 h | _ => none
theorem W197_ok : WOk Tryz.prog 197 W197 := by
  intro c l h r e
  unfold W197 at e
  split at e
  · exact ⟨P197, by rw [S197_eq]; exact e⟩
  · cases e
/- math/bits.Len -/
def P198 : Pl := .z
def S198 (c : CV) (a0 : AV) (h : AH) : R :=
pCond (.bool false) (
pConvI .u32 a0 fun v0 =>
pCall c (.fn 244 [] []) [v0] h fun v1 h2 =>
some (v1, h2)) (
pCall c (.fn 245 [] []) [a0] h fun v3 h4 =>
some (v3, h4))
theorem S198_eq (c : CV) (a0 : AV) (h : AH) : enterK Tryz.prog NN P198 c 198 [a0] h = S198 c a0 h := by kernel_rfl
def W198 (c : CV) (l : List AV) (h : AH) : R := match l with | [a0] => S198 c a0 h | _ => none
theorem W198_ok : WOk Tryz.prog 198 W198 := by
  intro c l h r e
  unfold W198 at e
  split at e
  · exact ⟨P198, by rw [S198_eq]; exact e⟩
  · cases e
/- (*quietus/reads.Reads).Get -/
def P199 : Pl := (.n none .z (.n none (.n none .z (.n none (.n (some [13, 12, 11, 1]) .z .z) .z)) .z))
def S199 (_ : CV) (a0 a1 : AV) (h : AH) : R :=
pNil a0 fun v0 =>
pFieldA v0 1 fun v1 =>
pLoad1 h v1 fun v2 =>
pLenS v2 fun v3 =>
loopC (σ := AV × AV × AV × AV × Unit) NN (fun i7 s4 h5 d6 =>
pInt .lss s4.1 s4.2.1 fun v8 =>
pCond v8 (
pIdxS s4.2.2.1 s4.1 2 fun v9 =>
pLoadN h5 v9 2 fun v10 =>
pBox h5 106 (.agg [(.int .i64 (.ofNat 0)), (.int .u64 (.ofNat 0))]) fun v11 h12 =>
pStore h12 v11 v10 2 fun h13 =>
pFieldA v11 0 fun v14 =>
pLoad1 h13 v14 fun v15 =>
pInt .eql v15 s4.2.2.2.1 fun v16 =>
pCond v16 (
pFieldA v11 1 fun v17 =>
pLoad1 h13 v17 fun v18 =>
pLeave d6 h13 fun h19 =>
some ((.tup [v18, (.bool true)]), h19)) (
pInt .add s4.1 (.int .i64 (.ofNat 1)) fun v20 =>
i7 (v20, s4.2.1, s4.2.2.1, s4.2.2.2.1, ()) h13 d6)) (
pLeave d6 h5 fun h21 =>
some ((.tup [(.int .u64 (.ofNat 0)), (.bool false)]), h21))) ((.int .i64 (.ofNat 0)), v3, v2, a1, ()) h []
theorem S199_eq (c : CV) (a0 a1 : AV) (h : AH) : enterK Tryz.prog NN P199 c 199 [a0, a1] h = S199 c a0 a1 h := by kernel_rfl
def W199 (c : CV) (l : List AV) (h : AH) : R := match l with | [a0, a1] => S199 c a0 a1 h | _ => none
theorem W199_ok : WOk Tryz.prog 199 W199 := by
  intro c l h r e
  unfold W199 at e
  split at e
  · exact ⟨P199, by rw [S199_eq]; exact e⟩
  · cases e
/- internal/strconv.FormatUint -/
def P200 : Pl := .z
def S200 (c : CV) (a0 a1 : AV) (h : AH) : R :=
pInt .eql a1 (.int .i64 (.ofNat 10)) fun v0 =>
pCond v0 (
pInt .lss a0 (.int .u64 (.ofNat 100)) fun v1 =>
pCond v1 (
pConvI .i64 a0 fun v2 =>
pCall c (.fn 246 [] []) [v2] h fun v3 h4 =>
some (v3, h4)) (
pBox h 300 (.agg [(.int .u8 (.ofNat 0)), (.int .u8 (.ofNat 0)), (.int .u8 (.ofNat 0)), (.int .u8 (.ofNat 0)), (.int .u8 (.ofNat 0)), (.int .u8 (.ofNat 0)), (.int .u8 (.ofNat 0)), (.int .u8 (.ofNat 0)), (.int .u8 (.ofNat 0)), (.int .u8 (.ofNat 0)), (.int .u8 (.ofNat 0)), (.int .u8 (.ofNat 0)), (.int .u8 (.ofNat 0)), (.int .u8 (.ofNat 0)), (.int .u8 (.ofNat 0)), (.int .u8 (.ofNat 0)), (.int .u8 (.ofNat 0)), (.int .u8 (.ofNat 0)), (.int .u8 (.ofNat 0)), (.int .u8 (.ofNat 0)), (.int .u8 (.ofNat 0)), (.int .u8 (.ofNat 0)), (.int .u8 (.ofNat 0)), (.int .u8 (.ofNat 0))]) fun v5 h6 =>
pCall c (.fn 247 [] []) [a0] h6 fun v7 h8 =>
pSliceP 24 1 v5 none (some v7) fun v9 =>
pCall c (.fn 248 [] []) [v9, a0] h8 fun _ h11 =>
pSliceP 24 1 v5 none (some v7) fun v12 =>
pB2S h11 v12 fun v13 =>
some (v13, h11))) (
pCall c (.fn 249 [] []) [.nils, a0, a1, (.bool false), (.bool false)] h fun v14 h15 =>
pExtract v14 0 fun _ =>
pExtract v14 1 fun v17 =>
some (v17, h15))
theorem S200_eq (c : CV) (a0 a1 : AV) (h : AH) : enterK Tryz.prog NN P200 c 200 [a0, a1] h = S200 c a0 a1 h := by kernel_rfl
def W200 (c : CV) (l : List AV) (h : AH) : R := match l with | [a0, a1] => S200 c a0 a1 h | _ => none
theorem W200_ok : WOk Tryz.prog 200 W200 := by
  intro c l h r e
  unfold W200 at e
  split at e
  · exact ⟨P200, by rw [S200_eq]; exact e⟩
  · cases e
/- (*strings.Builder).copyCheck -/
def P201 : Pl := .z
def S201 (_ : CV) (a0 : AV) (h : AH) : R :=
pNil a0 fun v0 =>
pFieldA v0 0 fun v1 =>
pLoad1 h v1 fun v2 =>
pEq .ptr false v2 .nilp fun v3 =>
pCond v3 (
none /- op -/) (
pNil a0 fun v4 =>
pFieldA v4 0 fun v5 =>
pLoad1 h v5 fun v6 =>
pEq .ptr true v6 a0 fun v7 =>
pCond v7 (
none /- code -/) (
some ((.tup []), h)))
theorem S201_eq (c : CV) (a0 : AV) (h : AH) : enterK Tryz.prog NN P201 c 201 [a0] h = S201 c a0 h := by kernel_rfl
def W201 (c : CV) (l : List AV) (h : AH) : R := match l with | [a0] => S201 c a0 h | _ => none
theorem W201_ok : WOk Tryz.prog 201 W201 := by
  intro c l h r e
  unfold W201 at e
  split at e
  · exact ⟨P201, by rw [S201_eq]; exact e⟩
  · cases e
/- (*strings.Builder).grow -/
def P202 : Pl := (.n none (.r [[4, 0]]) .z)
def S202 (_ : CV) (a0 _ : AV) (h : AH) : R :=
joinC (α := AV × AV × Unit → AH → R) (fun s0 h1 =>
pNil s0.2.1 fun v3 =>
pFieldA v3 1 fun v4 =>
pLoad1 h1 v4 fun v5 =>
pCopy h1 1 s0.1 v5 fun _ h7 =>
pNil s0.2.1 fun v8 =>
pFieldA v8 1 fun v9 =>
pStore h7 v9 s0.1 1 fun h10 =>
some ((.tup []), h10)) fun _ =>
pNil a0 fun v11 =>
pFieldA v11 1 fun v12 =>
pLoad1 h v12 fun _ =>
none /- op -/
theorem S202_eq (c : CV) (a0 a1 : AV) (h : AH) : enterK Tryz.prog NN P202 c 202 [a0, a1] h = S202 c a0 a1 h := by kernel_rfl
def W202 (c : CV) (l : List AV) (h : AH) : R := match l with | [a0, a1] => S202 c a0 a1 h | _ => none
theorem W202_ok : WOk Tryz.prog 202 W202 := by
  intro c l h r e
  unfold W202 at e
  split at e
  · exact ⟨P202, by rw [S202_eq]; exact e⟩
  · cases e
/- quietus/code.fields -/
def P203 : Pl := (.n none .z (.n none .z (.n none (.n none .z (.n (some [4, 3, 2]) (.n (some [8, 7, 5, 4, 3, 2]) .z (.n none .z (.n (some [13, 7, 5, 4, 3, 2]) .z (.n none (.r [[4, 3, 2]]) (.n (some [18, 7, 5, 4, 3, 2]) .z (.n none (.r [[4, 3, 2]]) (.n (some [27, 7, 5, 4, 3, 2]) .z (.n none (.r [[4, 3, 2]]) .z)))))))) .z)) (.n none (.r [[4, 3, 2]]) .z))))
def S203 (_ : CV) (a0 : AV) (h : AH) : R :=
pBox h 265 (.agg [(.int .i64 (.ofNat 0)), (.int .i64 (.ofNat 0))]) fun v0 h1 =>
pBox h1 265 (.agg [(.int .i64 (.ofNat 0)), (.int .i64 (.ofNat 0))]) fun v2 h3 =>
pBox h3 265 (.agg [(.int .i64 (.ofNat 0)), (.int .i64 (.ofNat 0))]) fun v4 h5 =>
pBuild [(.int .i64 (.ofNat 0)), (.int .i64 (.ofNat 0))] [(1, 1, (.int .i64 (.ofNat 7)))] fun v6 =>
pBox h5 265 (.agg [(.int .i64 (.ofNat 0)), (.int .i64 (.ofNat 0))]) fun v7 h8 =>
pStore h8 v7 v6 2 fun h9 =>
joinC (α := AV × AV × AV × Unit → AH → List Nat → R) (fun s10 h11 d12 =>
joinC (α := AV × AV × AV × Unit → AH → R) (fun s14 h15 =>
pLeave d12 h15 fun h17 =>
pLoadN h17 s14.2.2.1 2 fun v18 =>
pLoadN h17 s14.2.1 2 fun v19 =>
pLoadN h17 s14.1 2 fun v20 =>
some ((.tup [v18, v19, v20]), h17)) fun j16 =>
pLoadN h11 s10.2.2.1 2 fun v21 =>
pLoadN h11 s10.2.1 2 fun v22 =>
pLoadN h11 s10.1 2 fun v23 =>
pStore h11 s10.2.2.1 v21 2 fun h24 =>
pStore h24 s10.2.1 v22 2 fun h25 =>
pStore h25 s10.1 v23 2 fun h26 =>
pChk s10.1 (some 2) v23 h24 h25 h11.nx <|
pChk s10.1 (some 2) v23 h11 h24 h11.nx <|
pChk s10.2.1 (some 2) v22 h11 h24 h11.nx <|
j16 (s10.1, s10.2.1, s10.2.2.1, ()) h26) fun j13 =>
joinC (α := AV × AV × AV × AV × AV × AV × Unit → AH → List Nat → R) (fun s27 h28 d29 =>
pCond s27.1 (
pLoadN h28 s27.2.2.1 2 fun v31 =>
pStore h28 s27.2.2.2.2.2.1 v31 2 fun h32 =>
j13 (s27.2.2.2.1, s27.2.2.2.2.1, s27.2.2.2.2.2.1, ()) h32 d29) (
joinC (α := AV × AV × AV × AV × AV × AV × Unit → AH → List Nat → R) (fun s33 h34 d35 =>
pCond s33.1 (
joinC (α := AV × AV × AV × Unit → AH → R) (fun s37 h38 =>
j13 (s37.1, s37.2.1, s37.2.2.1, ()) h38 d35) fun j39 =>
pLoadN h34 s33.2.2.1 2 fun v40 =>
pLoadN h34 s33.2.2.1 2 fun v41 =>
pStore h34 s33.2.2.2.2.2.1 v40 2 fun h42 =>
pStore h42 s33.2.2.2.2.1 v41 2 fun h43 =>
pChk s33.2.2.1 (some 2) v41 h34 h42 h34.nx <|
j39 (s33.2.2.2.1, s33.2.2.2.2.1, s33.2.2.2.2.2.1, ()) h43) (
joinC (α := AV × AV × AV × AV × AV × AV × Unit → AH → List Nat → R) (fun s44 h45 d46 =>
pCond s44.1 (
joinC (α := AV × AV × AV × Unit → AH → R) (fun s48 h49 =>
j13 (s48.1, s48.2.1, s48.2.2.1, ()) h49 d46) fun j50 =>
pLoadN h45 s44.2.2.1 2 fun v51 =>
pLoadN h45 s44.2.2.1 2 fun v52 =>
pLoadN h45 s44.2.2.1 2 fun v53 =>
pStore h45 s44.2.2.2.2.2.1 v51 2 fun h54 =>
pStore h54 s44.2.2.2.2.1 v52 2 fun h55 =>
pStore h55 s44.2.2.2.1 v53 2 fun h56 =>
pChk s44.2.2.1 (some 2) v53 h54 h55 h45.nx <|
pChk s44.2.2.1 (some 2) v53 h45 h54 h45.nx <|
pChk s44.2.2.1 (some 2) v52 h45 h54 h45.nx <|
j50 (s44.2.2.2.1, s44.2.2.2.2.1, s44.2.2.2.2.2.1, ()) h56) (
joinC (α := AV × AV × AV × AV × AV × AV × Unit → AH → List Nat → R) (fun s57 h58 d59 =>
pCond s57.1 (
joinC (α := AV × AV × AV × Unit → AH → R) (fun s61 h62 =>
j13 (s61.1, s61.2.1, s61.2.2.1, ()) h62 d59) fun j63 =>
pLoadN h58 s57.2.2.1 2 fun v64 =>
pLoadN h58 s57.2.2.1 2 fun v65 =>
pBuild [(.int .i64 (.ofNat 0)), (.int .i64 (.ofNat 0))] [(1, 1, (.int .i64 (.ofNat 15)))] fun v66 =>
pStore h58 s57.2.2.2.2.2.1 v64 2 fun h67 =>
pStore h67 s57.2.2.2.2.1 v65 2 fun h68 =>
pStore h68 s57.2.2.2.1 v66 2 fun h69 =>
pChk s57.2.2.1 (some 2) v65 h58 h67 h58.nx <|
j63 (s57.2.2.2.1, s57.2.2.2.2.1, s57.2.2.2.2.2.1, ()) h69) (
pInt .eql s57.2.1 (.int .i64 (.ofNat 12)) fun v70 =>
pCond v70 (
pBuild [(.int .i64 (.ofNat 0)), (.int .i64 (.ofNat 0))] [(1, 1, (.int .i64 (.ofNat 40)))] fun v71 =>
pStore h58 s57.2.2.2.1 v71 2 fun h72 =>
j13 (s57.2.2.2.1, s57.2.2.2.2.1, s57.2.2.2.2.2.1, ()) h72 d59) (
pInt .eql s57.2.1 (.int .i64 (.ofNat 13)) fun v73 =>
pCond v73 (
pLoadN h58 s57.2.2.1 2 fun v74 =>
pBuild [(.int .i64 (.ofNat 0)), (.int .i64 (.ofNat 0))] [(1, 1, (.int .i64 (.ofNat 40)))] fun v75 =>
pStore h58 s57.2.2.2.2.2.1 v74 2 fun h76 =>
pStore h76 s57.2.2.2.1 v75 2 fun h77 =>
j13 (s57.2.2.2.1, s57.2.2.2.2.1, s57.2.2.2.2.2.1, ()) h77 d59) (
pInt .eql s57.2.1 (.int .i64 (.ofNat 23)) fun v78 =>
pCond v78 (
pBuild [(.int .i64 (.ofNat 0)), (.int .i64 (.ofNat 0))] [(0, 1, (.int .i64 (.ofNat 1))), (1, 1, (.int .i64 (.ofNat 12)))] fun v79 =>
pBuild [(.int .i64 (.ofNat 0)), (.int .i64 (.ofNat 0))] [(1, 1, (.int .i64 (.ofNat 7)))] fun v80 =>
pBuild [(.int .i64 (.ofNat 0)), (.int .i64 (.ofNat 0))] [(1, 1, (.int .i64 (.ofNat 6)))] fun v81 =>
pStore h58 s57.2.2.2.2.2.1 v79 2 fun h82 =>
pStore h82 s57.2.2.2.2.1 v80 2 fun h83 =>
pStore h83 s57.2.2.2.1 v81 2 fun h84 =>
j13 (s57.2.2.2.1, s57.2.2.2.2.1, s57.2.2.2.2.2.1, ()) h84 d59) (
j13 (s57.2.2.2.1, s57.2.2.2.2.1, s57.2.2.2.2.2.1, ()) h58 d59))))) fun j60 =>
pInt .eql s44.2.1 (.int .i64 (.ofNat 8)) fun v85 =>
pCond v85 (
j60 (v85, s44.2.1, s44.2.2.1, s44.2.2.2.1, s44.2.2.2.2.1, s44.2.2.2.2.2.1, ()) h45 d46) (
pInt .eql s44.2.1 (.int .i64 (.ofNat 9)) fun v86 =>
j60 (v86, s44.2.1, s44.2.2.1, s44.2.2.2.1, s44.2.2.2.2.1, s44.2.2.2.2.2.1, ()) h45 d46))) fun j47 =>
pInt .eql s33.2.1 (.int .i64 (.ofNat 3)) fun v87 =>
pCond v87 (
j47 (v87, s33.2.1, s33.2.2.1, s33.2.2.2.1, s33.2.2.2.2.1, s33.2.2.2.2.2.1, ()) h34 d35) (
pInt .eql s33.2.1 (.int .i64 (.ofNat 4)) fun v88 =>
pCond v88 (
j47 (v88, s33.2.1, s33.2.2.1, s33.2.2.2.1, s33.2.2.2.2.1, s33.2.2.2.2.2.1, ()) h34 d35) (
pInt .eql s33.2.1 (.int .i64 (.ofNat 5)) fun v89 =>
pCond v89 (
j47 (v89, s33.2.1, s33.2.2.1, s33.2.2.2.1, s33.2.2.2.2.1, s33.2.2.2.2.2.1, ()) h34 d35) (
pInt .eql s33.2.1 (.int .i64 (.ofNat 6)) fun v90 =>
pCond v90 (
j47 (v90, s33.2.1, s33.2.2.1, s33.2.2.2.1, s33.2.2.2.2.1, s33.2.2.2.2.2.1, ()) h34 d35) (
pInt .eql s33.2.1 (.int .i64 (.ofNat 7)) fun v91 =>
j47 (v91, s33.2.1, s33.2.2.1, s33.2.2.2.1, s33.2.2.2.2.1, s33.2.2.2.2.2.1, ()) h34 d35)))))) fun j36 =>
pInt .eql s27.2.1 (.int .i64 (.ofNat 2)) fun v92 =>
pCond v92 (
j36 (v92, s27.2.1, s27.2.2.1, s27.2.2.2.1, s27.2.2.2.2.1, s27.2.2.2.2.2.1, ()) h28 d29) (
pInt .eql s27.2.1 (.int .i64 (.ofNat 10)) fun v93 =>
j36 (v93, s27.2.1, s27.2.2.1, s27.2.2.2.1, s27.2.2.2.2.1, s27.2.2.2.2.2.1, ()) h28 d29))) fun j30 =>
pInt .eql a0 (.int .i64 (.ofNat 1)) fun v94 =>
pCond v94 (
j30 (v94, a0, v7, v4, v2, v0, ()) h9 []) (
pInt .eql a0 (.int .i64 (.ofNat 11)) fun v95 =>
pCond v95 (
j30 (v95, a0, v7, v4, v2, v0, ()) h9 []) (
pInt .eql a0 (.int .i64 (.ofNat 21)) fun v96 =>
j30 (v96, a0, v7, v4, v2, v0, ()) h9 []))
theorem S203_eq (c : CV) (a0 : AV) (h : AH) : enterK Tryz.prog NN P203 c 203 [a0] h = S203 c a0 h := by kernel_rfl
def W203 (c : CV) (l : List AV) (h : AH) : R := match l with | [a0] => S203 c a0 h | _ => none
theorem W203_ok : WOk Tryz.prog 203 W203 := by
  intro c l h r e
  unfold W203 at e
  split at e
  · exact ⟨P203, by rw [S203_eq]; exact e⟩
  · cases e
/- quietus/code.Name -/
def P204 : Pl := .z
def S204 (c : CV) (a0 : AV) (h : AH) : R :=
pCall c (.fn 253 [] []) [] h fun v0 h1 =>
pCall c (.fn 252 [] []) [v0, a0] h1 fun v2 h3 =>
some (v2, h3)
theorem S204_eq (c : CV) (a0 : AV) (h : AH) : enterK Tryz.prog NN P204 c 204 [a0] h = S204 c a0 h := by kernel_rfl
def W204 (c : CV) (l : List AV) (h : AH) : R := match l with | [a0] => S204 c a0 h | _ => none
theorem W204_ok : WOk Tryz.prog 204 W204 := by
  intro c l h r e
  unfold W204 at e
  split at e
  · exact ⟨P204, by rw [S204_eq]; exact e⟩
  · cases e
/- (quietus/code.field).fits -/
def P205 : Pl := (.n none .z (.n none (.r [[13, 9]]) .z))
def S205 (_ : CV) (a0 a1 : AV) (h : AH) : R :=
pBox h 265 a0 fun v0 h1 =>
pFieldA v0 0 fun v2 =>
pLoad1 h1 v2 fun v3 =>
pInt .geq a1 v3 fun v4 =>
joinC (α := AV × AV × Unit → AH → R) (fun s5 h6 =>
pPick s5.2.1 s5.1 (.bool false) fun v8 =>
some (v8, h6)) fun j7 =>
pWant v4 true (
pFieldA v0 1 fun v9 =>
pLoad1 h1 v9 fun v10 =>
pInt .leq a1 v10 fun v11 =>
j7 (v11, v4, ()) h1) (
j7 (.undef, v4, ()) h1)
theorem S205_eq (c : CV) (a0 a1 : AV) (h : AH) : enterK Tryz.prog NN P205 c 205 [a0, a1] h = S205 c a0 a1 h := by kernel_rfl
def W205 (c : CV) (l : List AV) (h : AH) : R := match l with | [a0, a1] => S205 c a0 a1 h | _ => none
theorem W205_ok : WOk Tryz.prog 205 W205 := by
  intro c l h r e
  unfold W205 at e
  split at e
  · exact ⟨P205, by rw [S205_eq]; exact e⟩
  · cases e
/- (*quietus/slate.Slate).add -/
def P206 : Pl := .z
def S206 (_ : CV) (a0 a1 : AV) (h : AH) : R :=
pNil a0 fun v0 =>
pFieldA v0 0 fun v1 =>
pLoad1 h v1 fun v2 =>
pLenS v2 fun v3 =>
pInt .geq v3 (.int .i64 (.ofNat 16)) fun v4 =>
pCond v4 (
some ((.bool false), h)) (
pNil a0 fun v5 =>
pFieldA v5 0 fun v6 =>
pLoad1 h v6 fun v7 =>
pBuildS h 20 [.nili] 1 [(0, 1, a1)] fun v8 h9 =>
pAppend h9 20 1 v7 v8 fun v10 h11 =>
pNil a0 fun v12 =>
pFieldA v12 0 fun v13 =>
pStore h11 v13 v10 1 fun h14 =>
some ((.bool true), h14))
theorem S206_eq (c : CV) (a0 a1 : AV) (h : AH) : enterK Tryz.prog NN P206 c 206 [a0, a1] h = S206 c a0 a1 h := by kernel_rfl
def W206 (c : CV) (l : List AV) (h : AH) : R := match l with | [a0, a1] => S206 c a0 a1 h | _ => none
theorem W206_ok : WOk Tryz.prog 206 W206 := by
  intro c l h r e
  unfold W206 at e
  split at e
  · exact ⟨P206, by rw [S206_eq]; exact e⟩
  · cases e
/- (*quietus/interp.Interp).truth -/
def P207 : Pl := .z
def S207 (_ : CV) (a0 a1 : AV) (h : AH) : R :=
pBox h 134 a0 fun v0 h1 =>
pBox h1 28 a1 fun v2 h3 =>
some ((.fn 254 [] [v0, v2]), h3)
theorem S207_eq (c : CV) (a0 a1 : AV) (h : AH) : enterK Tryz.prog NN P207 c 207 [a0, a1] h = S207 c a0 a1 h := by kernel_rfl
def W207 (c : CV) (l : List AV) (h : AH) : R := match l with | [a0, a1] => S207 c a0 a1 h | _ => none
theorem W207_ok : WOk Tryz.prog 207 W207 := by
  intro c l h r e
  unfold W207 at e
  split at e
  · exact ⟨P207, by rw [S207_eq]; exact e⟩
  · cases e
/- quietus/list.Add -/
def P208 : Pl := (.n none .z (.n none .z (.n none .z (.n none (.r [[17, 15, 9]]) .z))))
def S208 (c : CV) (a0 a1 a2 : AV) (h : AH) : R :=
pBox h 3 a1 fun v0 h1 =>
pBox h1 22 a2 fun v2 h3 =>
pBox h3 4 (.bool false) fun v4 h5 =>
pStore h5 v4 (.bool false) 1 fun h6 =>
pLoad1 h6 v0 fun v7 =>
pCall c (.fn 256 [] []) [a0, v7, (.fn 257 [] [v0, v2, v4])] h6 fun v8 h9 =>
pLoad1 h9 v4 fun v10 =>
joinC (α := AV × AV × AV × Unit → AH → R) (fun s11 h12 =>
pPick s11.2.1 s11.1 (.bool false) fun v14 =>
some ((.tup [v14, s11.2.2.1]), h12)) fun j13 =>
pWant v10 true (
pInt .eql v8 (.int .i64 (.ofNat 0)) fun v15 =>
j13 (v15, v10, v8, ()) h9) (
j13 (.undef, v10, v8, ()) h9)
theorem S208_eq (c : CV) (a0 a1 a2 : AV) (h : AH) : enterK Tryz.prog NN P208 c 208 [a0, a1, a2] h = S208 c a0 a1 a2 h := by kernel_rfl
def W208 (c : CV) (l : List AV) (h : AH) : R := match l with | [a0, a1, a2] => S208 c a0 a1 a2 h | _ => none
theorem W208_ok : WOk Tryz.prog 208 W208 := by
  intro c l h r e
  unfold W208 at e
  split at e
  · exact ⟨P208, by rw [S208_eq]; exact e⟩
  · cases e
/- quietus/list.Cut -/
def P209 : Pl := (.n none .z (.n none .z (.n none .z (.n none (.r [[17, 15, 9]]) .z))))
def S209 (c : CV) (a0 a1 a2 : AV) (h : AH) : R :=
pBox h 3 a1 fun v0 h1 =>
pBox h1 22 a2 fun v2 h3 =>
pBox h3 4 (.bool false) fun v4 h5 =>
pStore h5 v4 (.bool false) 1 fun h6 =>
pLoad1 h6 v0 fun v7 =>
pCall c (.fn 256 [] []) [a0, v7, (.fn 264 [] [v0, v2, v4])] h6 fun v8 h9 =>
pLoad1 h9 v4 fun v10 =>
joinC (α := AV × AV × AV × Unit → AH → R) (fun s11 h12 =>
pPick s11.2.1 s11.1 (.bool false) fun v14 =>
some ((.tup [v14, s11.2.2.1]), h12)) fun j13 =>
pWant v10 true (
pInt .eql v8 (.int .i64 (.ofNat 0)) fun v15 =>
j13 (v15, v10, v8, ()) h9) (
j13 (.undef, v10, v8, ()) h9)
theorem S209_eq (c : CV) (a0 a1 a2 : AV) (h : AH) : enterK Tryz.prog NN P209 c 209 [a0, a1, a2] h = S209 c a0 a1 a2 h := by kernel_rfl
def W209 (c : CV) (l : List AV) (h : AH) : R := match l with | [a0, a1, a2] => S209 c a0 a1 a2 h | _ => none
theorem W209_ok : WOk Tryz.prog 209 W209 := by
  intro c l h r e
  unfold W209 at e
  split at e
  · exact ⟨P209, by rw [S209_eq]; exact e⟩
  · cases e
/- quietus/list.Has -/
def P210 : Pl := (.n none .z (.n none .z (.n none .z (.n none (.r [[17, 15, 9]]) .z))))
def S210 (c : CV) (a0 a1 a2 : AV) (h : AH) : R :=
pBox h 3 a1 fun v0 h1 =>
pBox h1 22 a2 fun v2 h3 =>
pBox h3 4 (.bool false) fun v4 h5 =>
pStore h5 v4 (.bool false) 1 fun h6 =>
pLoad1 h6 v0 fun v7 =>
pCall c (.fn 256 [] []) [a0, v7, (.fn 267 [] [v0, v2, v4])] h6 fun v8 h9 =>
pLoad1 h9 v4 fun v10 =>
joinC (α := AV × AV × AV × Unit → AH → R) (fun s11 h12 =>
pPick s11.2.1 s11.1 (.bool false) fun v14 =>
some ((.tup [v14, s11.2.2.1]), h12)) fun j13 =>
pWant v10 true (
pInt .eql v8 (.int .i64 (.ofNat 0)) fun v15 =>
j13 (v15, v10, v8, ()) h9) (
j13 (.undef, v10, v8, ()) h9)
theorem S210_eq (c : CV) (a0 a1 a2 : AV) (h : AH) : enterK Tryz.prog NN P210 c 210 [a0, a1, a2] h = S210 c a0 a1 a2 h := by kernel_rfl
def W210 (c : CV) (l : List AV) (h : AH) : R := match l with | [a0, a1, a2] => S210 c a0 a1 a2 h | _ => none
theorem W210_ok : WOk Tryz.prog 210 W210 := by
  intro c l h r e
  unfold W210 at e
  split at e
  · exact ⟨P210, by rw [S210_eq]; exact e⟩
  · cases e
/- quietus/table.Put -/
def P211 : Pl := (.n none .z (.n none .z (.n none .z (.n none (.r [[19, 17, 11]]) .z))))
def S211 (c : CV) (a0 a1 a2 a3 : AV) (h : AH) : R :=
pBox h 3 a1 fun v0 h1 =>
pBox h1 22 a2 fun v2 h3 =>
pBox h3 22 a3 fun v4 h5 =>
pBox h5 4 (.bool false) fun v6 h7 =>
pStore h7 v6 (.bool false) 1 fun h8 =>
pLoad1 h8 v0 fun v9 =>
pCall c (.fn 256 [] []) [a0, v9, (.fn 268 [] [v0, v2, v4, v6])] h8 fun v10 h11 =>
pLoad1 h11 v6 fun v12 =>
joinC (α := AV × AV × AV × Unit → AH → R) (fun s13 h14 =>
pPick s13.2.1 s13.1 (.bool false) fun v16 =>
some ((.tup [v16, s13.2.2.1]), h14)) fun j15 =>
pWant v12 true (
pInt .eql v10 (.int .i64 (.ofNat 0)) fun v17 =>
j15 (v17, v12, v10, ()) h11) (
j15 (.undef, v12, v10, ()) h11)
theorem S211_eq (c : CV) (a0 a1 a2 a3 : AV) (h : AH) : enterK Tryz.prog NN P211 c 211 [a0, a1, a2, a3] h = S211 c a0 a1 a2 a3 h := by kernel_rfl
def W211 (c : CV) (l : List AV) (h : AH) : R := match l with | [a0, a1, a2, a3] => S211 c a0 a1 a2 a3 h | _ => none
theorem W211_ok : WOk Tryz.prog 211 W211 := by
  intro c l h r e
  unfold W211 at e
  split at e
  · exact ⟨P211, by rw [S211_eq]; exact e⟩
  · cases e
/- (*quietus/interp.Interp).number -/
def P212 : Pl := .z
def S212 (_ : CV) (a0 a1 : AV) (h : AH) : R :=
pBox h 134 a0 fun v0 h1 =>
pBox h1 28 a1 fun v2 h3 =>
some ((.fn 273 [] [v0, v2]), h3)
theorem S212_eq (c : CV) (a0 a1 : AV) (h : AH) : enterK Tryz.prog NN P212 c 212 [a0, a1] h = S212 c a0 a1 h := by kernel_rfl
def W212 (c : CV) (l : List AV) (h : AH) : R := match l with | [a0, a1] => S212 c a0 a1 h | _ => none
theorem W212_ok : WOk Tryz.prog 212 W212 := by
  intro c l h r e
  unfold W212 at e
  split at e
  · exact ⟨P212, by rw [S212_eq]; exact e⟩
  · cases e
/- quietus/table.Get -/
def P213 : Pl := .z
def S213 (c : CV) (a0 a1 a2 : AV) (h : AH) : R :=
pBox h 3 a1 fun v0 h1 =>
pBox h1 22 a2 fun v2 h3 =>
pBox h3 22 (.int .u64 (.ofNat 0)) fun v4 h5 =>
pBox h5 4 (.bool false) fun v6 h7 =>
pStore h7 v4 (.int .u64 (.ofNat 0)) 1 fun h8 =>
pStore h8 v6 (.bool false) 1 fun h9 =>
pLoad1 h9 v0 fun v10 =>
pCall c (.fn 256 [] []) [a0, v10, (.fn 275 [] [v0, v2, v4, v6])] h9 fun v11 h12 =>
pInt .neq v11 (.int .i64 (.ofNat 0)) fun v13 =>
pCond v13 (
some ((.tup [(.int .u64 (.ofNat 0)), (.bool false), v11]), h12)) (
pLoad1 h12 v4 fun v14 =>
pLoad1 h12 v6 fun v15 =>
some ((.tup [v14, v15, (.int .i64 (.ofNat 0))]), h12))
theorem S213_eq (c : CV) (a0 a1 a2 : AV) (h : AH) : enterK Tryz.prog NN P213 c 213 [a0, a1, a2] h = S213 c a0 a1 a2 h := by kernel_rfl
def W213 (c : CV) (l : List AV) (h : AH) : R := match l with | [a0, a1, a2] => S213 c a0 a1 a2 h | _ => none
theorem W213_ok : WOk Tryz.prog 213 W213 := by
  intro c l h r e
  unfold W213 at e
  split at e
  · exact ⟨P213, by rw [S213_eq]; exact e⟩
  · cases e
/- quietus/table.Del -/
def P214 : Pl := (.n none .z (.n none .z (.n none .z (.n none (.r [[17, 15, 9]]) .z))))
def S214 (c : CV) (a0 a1 a2 : AV) (h : AH) : R :=
pBox h 3 a1 fun v0 h1 =>
pBox h1 22 a2 fun v2 h3 =>
pBox h3 4 (.bool false) fun v4 h5 =>
pStore h5 v4 (.bool false) 1 fun h6 =>
pLoad1 h6 v0 fun v7 =>
pCall c (.fn 256 [] []) [a0, v7, (.fn 276 [] [v0, v2, v4])] h6 fun v8 h9 =>
pLoad1 h9 v4 fun v10 =>
joinC (α := AV × AV × AV × Unit → AH → R) (fun s11 h12 =>
pPick s11.2.1 s11.1 (.bool false) fun v14 =>
some ((.tup [v14, s11.2.2.1]), h12)) fun j13 =>
pWant v10 true (
pInt .eql v8 (.int .i64 (.ofNat 0)) fun v15 =>
j13 (v15, v10, v8, ()) h9) (
j13 (.undef, v10, v8, ()) h9)
theorem S214_eq (c : CV) (a0 a1 a2 : AV) (h : AH) : enterK Tryz.prog NN P214 c 214 [a0, a1, a2] h = S214 c a0 a1 a2 h := by kernel_rfl
def W214 (c : CV) (l : List AV) (h : AH) : R := match l with | [a0, a1, a2] => S214 c a0 a1 a2 h | _ => none
theorem W214_ok : WOk Tryz.prog 214 W214 := by
  intro c l h r e
  unfold W214 at e
  split at e
  · exact ⟨P214, by rw [S214_eq]; exact e⟩
  · cases e
/- (*quietus/interp.Interp).push -/
def P215 : Pl := .z
def S215 (c : CV) (a0 a1 a2 : AV) (h : AH) : R :=
pNil a0 fun v0 =>
pFieldA v0 1 fun v1 =>
pLoad1 h v1 fun v2 =>
pCall c (.fn 277 [] []) [v2, a1, a2] h fun v3 h4 =>
pInt .neq v3 (.int .i64 (.ofNat 0)) fun v5 =>
pCond v5 (
some (v3, h4)) (
pNil a0 fun v6 =>
pFieldA v6 14 fun v7 =>
pLoad1 h4 v7 fun v8 =>
pCall c (.fn 274 [] []) [v8] h4 fun v9 h10 =>
pUn .not v9 fun v11 =>
pCond v11 (
some ((.int .i64 (.ofNat 5)), h10)) (
some ((.int .i64 (.ofNat 0)), h10)))
theorem S215_eq (c : CV) (a0 a1 a2 : AV) (h : AH) : enterK Tryz.prog NN P215 c 215 [a0, a1, a2] h = S215 c a0 a1 a2 h := by kernel_rfl
def W215 (c : CV) (l : List AV) (h : AH) : R := match l with | [a0, a1, a2] => S215 c a0 a1 a2 h | _ => none
theorem W215_ok : WOk Tryz.prog 215 W215 := by
  intro c l h r e
  unfold W215 at e
  split at e
  · exact ⟨P215, by rw [S215_eq]; exact e⟩
  · cases e
/- (*quietus/interp.Interp).take -/
def P216 : Pl := (.n none .z (.n none .z (.n none (.n none (.r [[24, 22, 9, 8, 7, 4, 0]]) .z) .z)))
def S216 (c : CV) (a0 a1 a2 : AV) (h : AH) : R :=
pBox h 28 a1 fun v0 h1 =>
pNil a0 fun v2 =>
pFieldA v2 1 fun v3 =>
pLoad1 h1 v3 fun v4 =>
pCall c (.fn 278 [] []) [v4, a2] h1 fun v5 h6 =>
pExtract v5 0 fun v7 =>
pExtract v5 1 fun v8 =>
pExtract v5 2 fun v9 =>
pInt .eql v9 (.int .i64 (.ofNat 0)) fun v10 =>
joinC (α := AV × AV × AV × AV × AV × AV × AV × Unit → AH → R) (fun s11 h12 =>
pPick s11.2.1 s11.1 (.bool false) fun v14 =>
pCond v14 (
pCall c (.fn 230 [] []) [s11.2.2.2.2.2.2.1] h12 fun v15 h16 =>
some (v15, h16)) (
pLoadN h12 s11.2.2.2.2.2.1 5 fun v17 =>
pCall c (.fn 212 [] []) [s11.2.2.2.2.2.2.1, v17] h12 fun v18 h19 =>
pCall c v18 [s11.2.2.2.2.1, s11.2.2.2.1, s11.2.2.1] h19 fun v20 h21 =>
some (v20, h21))) fun j13 =>
pWant v10 true (
pUn .not v8 fun v22 =>
j13 (v22, v10, v9, v8, v7, v0, a0, ()) h6) (
j13 (.undef, v10, v9, v8, v7, v0, a0, ()) h6)
theorem S216_eq (c : CV) (a0 a1 a2 : AV) (h : AH) : enterK Tryz.prog NN P216 c 216 [a0, a1, a2] h = S216 c a0 a1 a2 h := by kernel_rfl
def W216 (c : CV) (l : List AV) (h : AH) : R := match l with | [a0, a1, a2] => S216 c a0 a1 a2 h | _ => none
theorem W216_ok : WOk Tryz.prog 216 W216 := by
  intro c l h r e
  unfold W216 at e
  split at e
  · exact ⟨P216, by rw [S216_eq]; exact e⟩
  · cases e
/- quietus/tree.Put -/
def P217 : Pl := (.n none .z (.n none .z (.n none .z (.n none (.r [[19, 17, 11]]) .z))))
def S217 (c : CV) (a0 a1 a2 a3 : AV) (h : AH) : R :=
pBox h 3 a1 fun v0 h1 =>
pBox h1 22 a2 fun v2 h3 =>
pBox h3 22 a3 fun v4 h5 =>
pBox h5 4 (.bool false) fun v6 h7 =>
pStore h7 v6 (.bool false) 1 fun h8 =>
pLoad1 h8 v0 fun v9 =>
pCall c (.fn 256 [] []) [a0, v9, (.fn 279 [] [v0, v2, v4, v6])] h8 fun v10 h11 =>
pLoad1 h11 v6 fun v12 =>
joinC (α := AV × AV × AV × Unit → AH → R) (fun s13 h14 =>
pPick s13.2.1 s13.1 (.bool false) fun v16 =>
some ((.tup [v16, s13.2.2.1]), h14)) fun j15 =>
pWant v12 true (
pInt .eql v10 (.int .i64 (.ofNat 0)) fun v17 =>
j15 (v17, v12, v10, ()) h11) (
j15 (.undef, v12, v10, ()) h11)
theorem S217_eq (c : CV) (a0 a1 a2 a3 : AV) (h : AH) : enterK Tryz.prog NN P217 c 217 [a0, a1, a2, a3] h = S217 c a0 a1 a2 a3 h := by kernel_rfl
def W217 (c : CV) (l : List AV) (h : AH) : R := match l with | [a0, a1, a2, a3] => S217 c a0 a1 a2 a3 h | _ => none
theorem W217_ok : WOk Tryz.prog 217 W217 := by
  intro c l h r e
  unfold W217 at e
  split at e
  · exact ⟨P217, by rw [S217_eq]; exact e⟩
  · cases e
/- quietus/tree.Get -/
def P218 : Pl := .z
def S218 (c : CV) (a0 a1 a2 : AV) (h : AH) : R :=
pBox h 3 a1 fun v0 h1 =>
pBox h1 22 a2 fun v2 h3 =>
pBox h3 22 (.int .u64 (.ofNat 0)) fun v4 h5 =>
pBox h5 4 (.bool false) fun v6 h7 =>
pStore h7 v4 (.int .u64 (.ofNat 0)) 1 fun h8 =>
pStore h8 v6 (.bool false) 1 fun h9 =>
pLoad1 h9 v0 fun v10 =>
pCall c (.fn 256 [] []) [a0, v10, (.fn 283 [] [v0, v2, v4, v6])] h9 fun v11 h12 =>
pInt .neq v11 (.int .i64 (.ofNat 0)) fun v13 =>
pCond v13 (
some ((.tup [(.int .u64 (.ofNat 0)), (.bool false), v11]), h12)) (
pLoad1 h12 v4 fun v14 =>
pLoad1 h12 v6 fun v15 =>
some ((.tup [v14, v15, (.int .i64 (.ofNat 0))]), h12))
theorem S218_eq (c : CV) (a0 a1 a2 : AV) (h : AH) : enterK Tryz.prog NN P218 c 218 [a0, a1, a2] h = S218 c a0 a1 a2 h := by kernel_rfl
def W218 (c : CV) (l : List AV) (h : AH) : R := match l with | [a0, a1, a2] => S218 c a0 a1 a2 h | _ => none
theorem W218_ok : WOk Tryz.prog 218 W218 := by
  intro c l h r e
  unfold W218 at e
  split at e
  · exact ⟨P218, by rw [S218_eq]; exact e⟩
  · cases e
/- quietus/tree.Del -/
def P219 : Pl := (.n none .z (.n none .z (.n none .z (.n none (.r [[17, 15, 9]]) .z))))
def S219 (c : CV) (a0 a1 a2 : AV) (h : AH) : R :=
pBox h 3 a1 fun v0 h1 =>
pBox h1 22 a2 fun v2 h3 =>
pBox h3 4 (.bool false) fun v4 h5 =>
pStore h5 v4 (.bool false) 1 fun h6 =>
pLoad1 h6 v0 fun v7 =>
pCall c (.fn 256 [] []) [a0, v7, (.fn 284 [] [v0, v2, v4])] h6 fun v8 h9 =>
pLoad1 h9 v4 fun v10 =>
joinC (α := AV × AV × AV × Unit → AH → R) (fun s11 h12 =>
pPick s11.2.1 s11.1 (.bool false) fun v14 =>
some ((.tup [v14, s11.2.2.1]), h12)) fun j13 =>
pWant v10 true (
pInt .eql v8 (.int .i64 (.ofNat 0)) fun v15 =>
j13 (v15, v10, v8, ()) h9) (
j13 (.undef, v10, v8, ()) h9)
theorem S219_eq (c : CV) (a0 a1 a2 : AV) (h : AH) : enterK Tryz.prog NN P219 c 219 [a0, a1, a2] h = S219 c a0 a1 a2 h := by kernel_rfl
def W219 (c : CV) (l : List AV) (h : AH) : R := match l with | [a0, a1, a2] => S219 c a0 a1 a2 h | _ => none
theorem W219_ok : WOk Tryz.prog 219 W219 := by
  intro c l h r e
  unfold W219 at e
  split at e
  · exact ⟨P219, by rw [S219_eq]; exact e⟩
  · cases e
/- quietus/tree.Range -/
def P220 : Pl := .z
def S220 (c : CV) (a0 a1 a2 a3 : AV) (h : AH) : R :=
pBox h 3 a1 fun v0 h1 =>
pBox h1 22 a2 fun v2 h3 =>
pBox h3 22 a3 fun v4 h5 =>
pBox h5 279 .nils fun v6 h7 =>
pLoad1 h7 v0 fun v8 =>
pCall c (.fn 256 [] []) [a0, v8, (.fn 286 [] [v0, v2, v4, v6])] h7 fun v9 h10 =>
pInt .neq v9 (.int .i64 (.ofNat 0)) fun v11 =>
pCond v11 (
some ((.tup [.nils, v9]), h10)) (
pLoad1 h10 v6 fun v12 =>
some ((.tup [v12, (.int .i64 (.ofNat 0))]), h10))
theorem S220_eq (c : CV) (a0 a1 a2 a3 : AV) (h : AH) : enterK Tryz.prog NN P220 c 220 [a0, a1, a2, a3] h = S220 c a0 a1 a2 a3 h := by kernel_rfl
def W220 (c : CV) (l : List AV) (h : AH) : R := match l with | [a0, a1, a2, a3] => S220 c a0 a1 a2 a3 h | _ => none
theorem W220_ok : WOk Tryz.prog 220 W220 := by
  intro c l h r e
  unfold W220 at e
  split at e
  · exact ⟨P220, by rw [S220_eq]; exact e⟩
  · cases e
/- quietus/interp.place -/
def P221 : Pl := (.n none .z (.n none (.n none (.r [[13, 8, 1, 0], [20, 15, 1, 0]]) .z) .z))
def S221 (_ : CV) (a0 a1 : AV) (h : AH) : R :=
pInt .geq a0 (.int .u64 (.ofNat 2147483648)) fun v0 =>
joinC (α := AV × AV × AV × AV × Unit → AH → R) (fun s1 h2 =>
pPick s1.2.1 (.bool true) s1.1 fun v4 =>
joinC (α := AV × AV × AV × AV × Unit → AH → R) (fun s5 h6 =>
pPick s5.2.1 (.bool true) s5.1 fun v8 =>
pCond v8 (
some ((.tup [(.int .i64 (.ofNat 0)), (.int .i64 (.ofNat 2))]), h6)) (
pConvI .i64 s5.2.2.2.1 fun v9 =>
pInt .add v9 s5.2.2.1 fun v10 =>
some ((.tup [v10, (.int .i64 (.ofNat 0))]), h6))) fun j7 =>
pWant v4 false (
pConvI .i64 s1.2.2.2.1 fun v11 =>
pInt .add v11 s1.2.2.1 fun v12 =>
pInt .lss v12 (.int .i64 (.ofNat 6)) fun v13 =>
j7 (v13, v4, s1.2.2.1, s1.2.2.2.1, ()) h2) (
j7 (.undef, v4, s1.2.2.1, s1.2.2.2.1, ()) h2)) fun j3 =>
pWant v0 false (
pConvI .i64 a0 fun v14 =>
pInt .add v14 a1 fun v15 =>
pInt .geq v15 (.int .i64 (.ofNat 2147483648)) fun v16 =>
j3 (v16, v0, a1, a0, ()) h) (
j3 (.undef, v0, a1, a0, ()) h)
theorem S221_eq (c : CV) (a0 a1 : AV) (h : AH) : enterK Tryz.prog NN P221 c 221 [a0, a1] h = S221 c a0 a1 h := by kernel_rfl
def W221 (c : CV) (l : List AV) (h : AH) : R := match l with | [a0, a1] => S221 c a0 a1 h | _ => none
theorem W221_ok : WOk Tryz.prog 221 W221 := by
  intro c l h r e
  unfold W221 at e
  split at e
  · exact ⟨P221, by rw [S221_eq]; exact e⟩
  · cases e
/- (*quietus/view.View).Write -/
def P222 : Pl := .z
def S222 (c : CV) (a0 a1 a2 : AV) (h : AH) : R :=
pCall c (.fn 192 [] []) [a0, a1] h fun v0 h1 =>
pUn .not v0 fun v2 =>
pCond v2 (
some ((.int .i64 (.ofNat 2)), h1)) (
pNil a0 fun v3 =>
pFieldA v3 2 fun v4 =>
pLoad1 h1 v4 fun v5 =>
pCall c (.fn 233 [] []) [v5, a1, a2] h1 fun v6 h7 =>
some (v6, h7))
theorem S222_eq (c : CV) (a0 a1 a2 : AV) (h : AH) : enterK Tryz.prog NN P222 c 222 [a0, a1, a2] h = S222 c a0 a1 a2 h := by kernel_rfl
def W222 (c : CV) (l : List AV) (h : AH) : R := match l with | [a0, a1, a2] => S222 c a0 a1 a2 h | _ => none
theorem W222_ok : WOk Tryz.prog 222 W222 := by
  intro c l h r e
  unfold W222 at e
  split at e
  · exact ⟨P222, by rw [S222_eq]; exact e⟩
  · cases e
/- quietus/arena.Alloc -/
def P223 : Pl := .z
def S223 (c : CV) (a0 a1 : AV) (h : AH) : R :=
pCall c (.fn 289 [] []) [a1] h fun v0 h1 =>
pInt .eql v0 (.int .i64 (.ofNat 0)) fun v2 =>
pCond v2 (
some ((.tup [(.int .i64 (.ofNat 0)), (.int .i64 (.ofNat 3))]), h1)) (
pCall c (.fn 160 [] []) [v0] h1 fun v3 h4 =>
pCall c (.fn 159 [] []) [a0, v3] h4 fun v5 h6 =>
pExtract v5 0 fun v7 =>
pExtract v5 1 fun v8 =>
pInt .neq v8 (.int .i64 (.ofNat 0)) fun v9 =>
pCond v9 (
some ((.tup [(.int .i64 (.ofNat 0)), v8]), h6)) (
pInt .neq v7 (.int .u64 (.ofNat 0)) fun v10 =>
pCond v10 (
pCall c (.fn 290 [] []) [a0, v0, v7] h6 fun v11 h12 =>
pExtract v11 0 fun v13 =>
pExtract v11 1 fun v14 =>
some ((.tup [v13, v14]), h12)) (
pCall c (.fn 291 [] []) [a0, v0] h6 fun v15 h16 =>
pExtract v15 0 fun v17 =>
pExtract v15 1 fun v18 =>
some ((.tup [v17, v18]), h16))))
theorem S223_eq (c : CV) (a0 a1 : AV) (h : AH) : enterK Tryz.prog NN P223 c 223 [a0, a1] h = S223 c a0 a1 h := by kernel_rfl
def W223 (c : CV) (l : List AV) (h : AH) : R := match l with | [a0, a1] => S223 c a0 a1 h | _ => none
theorem W223_ok : WOk Tryz.prog 223 W223 := by
  intro c l h r e
  unfold W223 at e
  split at e
  · exact ⟨P223, by rw [S223_eq]; exact e⟩
  · cases e
/- quietus/arena.Free -/
def P224 : Pl := (.n none .z (.n none .z (.n (some [7, 5, 1, 0]) (.n none (.r [[19, 17, 7, 5, 1, 0]]) .z) (.n (some [7, 1, 0]) .z (.n (some [7]) .z .z)))))
def S224 (c : CV) (a0 a1 : AV) (h : AH) : R :=
pCall c (.fn 158 [] []) [a0, a1] h fun v0 h1 =>
pExtract v0 0 fun v2 =>
pExtract v0 1 fun v3 =>
pExtract v0 2 fun v4 =>
joinC (α := AV × AV × AV × AV × Unit → AH → List Nat → R) (fun s5 h6 d7 =>
joinC (α := AV × AV × AV × Unit → AH → List Nat → R) (fun s9 h10 d11 =>
joinC (α := AV × Unit → AH → List Nat → R) (fun s13 h14 d15 =>
pLeave d15 h14 fun h17 =>
some (s13.1, h17)) fun j16 =>
pInt .eql s9.1 (.int .i64 (.ofNat 0)) fun v18 =>
pCond v18 (
pCall c (.fn 292 [] []) [s9.2.2.1, s9.2.1] h10 fun _ h20 =>
j16 (s9.1, ()) h20 d11) (
j16 (s9.1, ()) h10 d11)) fun j12 =>
pInt .eql s5.1 (.int .i64 (.ofNat 0)) fun v21 =>
pCond v21 (
pInt .sub s5.2.2.1 (.int .i64 (.ofNat 1)) fun v22 =>
pConvI .u64 s5.2.1 fun v23 =>
pBuild [(.int .i64 (.ofNat 0)), (.int .u64 (.ofNat 0))] [(0, 1, v22), (1, 1, v23)] fun v24 =>
pBuildS h6 158 [(.int .i64 (.ofNat 0)), (.int .u64 (.ofNat 0))] 1 [(0, 2, v24)] fun v25 h26 =>
pCall c (.fn 161 [] []) [s5.2.2.2.1, v25] h26 fun v27 h28 =>
j12 (v27, s5.2.2.1, s5.2.2.2.1, ()) h28 d7) (
j12 (s5.1, s5.2.2.1, s5.2.2.2.1, ()) h6 d7)) fun j8 =>
pInt .eql v4 (.int .i64 (.ofNat 0)) fun v29 =>
joinC (α := AV × AV × AV × AV × AV × AV × Unit → AH → R) (fun s30 h31 =>
pPick s30.2.1 s30.1 (.bool false) fun v33 =>
pCond v33 (
j8 ((.int .i64 (.ofNat 2)), s30.2.2.2.1, s30.2.2.2.2.1, s30.2.2.2.2.2.1, ()) h31 []) (
j8 (s30.2.2.1, s30.2.2.2.1, s30.2.2.2.2.1, s30.2.2.2.2.2.1, ()) h31 [])) fun j32 =>
pWant v29 true (
pUn .not v3 fun v34 =>
j32 (v34, v29, v4, v2, a1, a0, ()) h1) (
j32 (.undef, v29, v4, v2, a1, a0, ()) h1)
theorem S224_eq (c : CV) (a0 a1 : AV) (h : AH) : enterK Tryz.prog NN P224 c 224 [a0, a1] h = S224 c a0 a1 h := by kernel_rfl
def W224 (c : CV) (l : List AV) (h : AH) : R := match l with | [a0, a1] => S224 c a0 a1 h | _ => none
theorem W224_ok : WOk Tryz.prog 224 W224 := by
  intro c l h r e
  unfold W224 at e
  split at e
  · exact ⟨P224, by rw [S224_eq]; exact e⟩
  · cases e
/- (*quietus/interp.Interp).begin -/
def P225 : Pl := (.n none .z (.n none .z (.n none (.r [[]]) .z)))
def S225 (c : CV) (a0 a1 a2 : AV) (h : AH) : R :=
pNil a0 fun v0 =>
pFieldA v0 1 fun v1 =>
pLoad1 h v1 fun v2 =>
pCall c (.fn 293 [] []) [v2] h fun v3 h4 =>
pInt .neq v3 (.int .i64 (.ofNat 0)) fun v5 =>
pCond v5 (
some (v3, h4)) (
joinC (α := Unit → AH → R) (fun _ h7 =>
some ((.int .i64 (.ofNat 0)), h7)) fun j8 =>
pNil a0 fun v9 =>
pFieldA v9 18 fun v10 =>
pLoad1 h4 v10 fun v11 =>
pNil a0 fun v12 =>
pFieldA v12 6 fun v13 =>
pLoadN h4 v13 8 fun v14 =>
pNil a0 fun v15 =>
pFieldA v15 14 fun v16 =>
pLoad1 h4 v16 fun v17 =>
pCall c (.fn 294 [] []) [v17] h4 fun v18 h19 =>
pBuild [(.int .i64 (.ofNat 0)), (.int .i64 (.ofNat 0)), (.int .u64 (.ofNat 0)), (.int .u64 (.ofNat 0)), (.int .u64 (.ofNat 0)), (.int .u64 (.ofNat 0)), (.int .u64 (.ofNat 0)), (.int .u64 (.ofNat 0)), (.int .u64 (.ofNat 0)), (.int .u64 (.ofNat 0)), (.int .i64 (.ofNat 0))] [(0, 1, a1), (1, 1, a2), (2, 8, v14), (10, 1, v18)] fun v20 =>
pBuildS h19 286 [(.int .i64 (.ofNat 0)), (.int .i64 (.ofNat 0)), (.int .u64 (.ofNat 0)), (.int .u64 (.ofNat 0)), (.int .u64 (.ofNat 0)), (.int .u64 (.ofNat 0)), (.int .u64 (.ofNat 0)), (.int .u64 (.ofNat 0)), (.int .u64 (.ofNat 0)), (.int .u64 (.ofNat 0)), (.int .i64 (.ofNat 0))] 1 [(0, 11, v20)] fun v21 h22 =>
pAppend h22 286 11 v11 v21 fun v23 h24 =>
pNil a0 fun v25 =>
pFieldA v25 18 fun v26 =>
pStore h24 v26 v23 1 fun h27 =>
pChk v13 (some 8) v14 h4 h19 h4.nx <|
pChk v10 none v11 h4 h19 h4.nx <|
j8 (()) h27)
theorem S225_eq (c : CV) (a0 a1 a2 : AV) (h : AH) : enterK Tryz.prog NN P225 c 225 [a0, a1, a2] h = S225 c a0 a1 a2 h := by kernel_rfl
def W225 (c : CV) (l : List AV) (h : AH) : R := match l with | [a0, a1, a2] => S225 c a0 a1 a2 h | _ => none
theorem W225_ok : WOk Tryz.prog 225 W225 := by
  intro c l h r e
  unfold W225 at e
  split at e
  · exact ⟨P225, by rw [S225_eq]; exact e⟩
  · cases e
/- (*quietus/interp.Interp).leave -/
def P226 : Pl := .z
def S226 (_ : CV) (a0 : AV) (h : AH) : R :=
pBox h 286 (.agg [(.int .i64 (.ofNat 0)), (.int .i64 (.ofNat 0)), (.int .u64 (.ofNat 0)), (.int .u64 (.ofNat 0)), (.int .u64 (.ofNat 0)), (.int .u64 (.ofNat 0)), (.int .u64 (.ofNat 0)), (.int .u64 (.ofNat 0)), (.int .u64 (.ofNat 0)), (.int .u64 (.ofNat 0)), (.int .i64 (.ofNat 0))]) fun v0 h1 =>
pNil a0 fun v2 =>
pFieldA v2 18 fun v3 =>
pLoad1 h1 v3 fun v4 =>
pNil a0 fun v5 =>
pFieldA v5 18 fun v6 =>
pLoad1 h1 v6 fun v7 =>
pLenS v7 fun v8 =>
pInt .sub v8 (.int .i64 (.ofNat 1)) fun v9 =>
pIdxS v4 v9 11 fun v10 =>
pLoadN h1 v10 11 fun v11 =>
pBox h1 286 (.agg [(.int .i64 (.ofNat 0)), (.int .i64 (.ofNat 0)), (.int .u64 (.ofNat 0)), (.int .u64 (.ofNat 0)), (.int .u64 (.ofNat 0)), (.int .u64 (.ofNat 0)), (.int .u64 (.ofNat 0)), (.int .u64 (.ofNat 0)), (.int .u64 (.ofNat 0)), (.int .u64 (.ofNat 0)), (.int .i64 (.ofNat 0))]) fun v12 h13 =>
pStore h13 v12 v11 11 fun h14 =>
pNil a0 fun v15 =>
pFieldA v15 18 fun v16 =>
pLoad1 h14 v16 fun v17 =>
pNil a0 fun v18 =>
pFieldA v18 18 fun v19 =>
pLoad1 h14 v19 fun v20 =>
pLenS v20 fun v21 =>
pInt .sub v21 (.int .i64 (.ofNat 1)) fun v22 =>
pSlice h14 286 11 v17 none (some v22) fun v23 =>
pNil a0 fun v24 =>
pFieldA v24 18 fun v25 =>
pStore h14 v25 v23 1 fun h26 =>
pLoadN h26 v12 11 fun v27 =>
pStore h26 v0 v27 11 fun h28 =>
pLoadN h28 v0 11 fun v29 =>
some (v29, h28)
theorem S226_eq (c : CV) (a0 : AV) (h : AH) : enterK Tryz.prog NN P226 c 226 [a0] h = S226 c a0 h := by kernel_rfl
def W226 (c : CV) (l : List AV) (h : AH) : R := match l with | [a0] => S226 c a0 h | _ => none
theorem W226_ok : WOk Tryz.prog 226 W226 := by
  intro c l h r e
  unfold W226 at e
  split at e
  · exact ⟨P226, by rw [S226_eq]; exact e⟩
  · cases e
/- (*quietus/view.View).Keep -/
def P227 : Pl := .z
def S227 (c : CV) (a0 : AV) (h : AH) : R :=
pNil a0 fun v0 =>
pFieldA v0 2 fun v1 =>
pLoad1 h v1 fun v2 =>
pCall c (.fn 295 [] []) [v2] h fun v3 h4 =>
some (v3, h4)
theorem S227_eq (c : CV) (a0 : AV) (h : AH) : enterK Tryz.prog NN P227 c 227 [a0] h = S227 c a0 h := by kernel_rfl
def W227 (c : CV) (l : List AV) (h : AH) : R := match l with | [a0] => S227 c a0 h | _ => none
theorem W227_ok : WOk Tryz.prog 227 W227 := by
  intro c l h r e
  unfold W227 at e
  split at e
  · exact ⟨P227, by rw [S227_eq]; exact e⟩
  · cases e
/- (*quietus/interp.Interp).back -/
def P228 : Pl := .z
def S228 (c : CV) (a0 a1 : AV) (h : AH) : R :=
pBox h 286 a1 fun v0 h1 =>
pFieldA v0 2 fun v2 =>
pLoadN h1 v2 8 fun v3 =>
pNil a0 fun v4 =>
pFieldA v4 6 fun v5 =>
pStore h1 v5 v3 8 fun h6 =>
pNil a0 fun v7 =>
pFieldA v7 14 fun v8 =>
pLoad1 h6 v8 fun v9 =>
pFieldA v0 10 fun v10 =>
pLoad1 h6 v10 fun v11 =>
pCall c (.fn 296 [] []) [v9, v11] h6 fun _ h13 =>
some ((.tup []), h13)
theorem S228_eq (c : CV) (a0 a1 : AV) (h : AH) : enterK Tryz.prog NN P228 c 228 [a0, a1] h = S228 c a0 a1 h := by kernel_rfl
def W228 (c : CV) (l : List AV) (h : AH) : R := match l with | [a0, a1] => S228 c a0 a1 h | _ => none
theorem W228_ok : WOk Tryz.prog 228 W228 := by
  intro c l h r e
  unfold W228 at e
  split at e
  · exact ⟨P228, by rw [S228_eq]; exact e⟩
  · cases e
/- (*quietus/view.View).Drop -/
def P229 : Pl := .z
def S229 (c : CV) (a0 : AV) (h : AH) : R :=
pNil a0 fun v0 =>
pFieldA v0 2 fun v1 =>
pLoad1 h v1 fun v2 =>
pCall c (.fn 297 [] []) [v2] h fun v3 h4 =>
some (v3, h4)
theorem S229_eq (c : CV) (a0 : AV) (h : AH) : enterK Tryz.prog NN P229 c 229 [a0] h = S229 c a0 h := by kernel_rfl
def W229 (c : CV) (l : List AV) (h : AH) : R := match l with | [a0] => S229 c a0 h | _ => none
theorem W229_ok : WOk Tryz.prog 229 W229 := by
  intro c l h r e
  unfold W229 at e
  split at e
  · exact ⟨P229, by rw [S229_eq]; exact e⟩
  · cases e
/- (*quietus/interp.Interp).retry -/
def P230 : Pl := (.n none .z (.n none (.n none (.n (some [0]) .z .z) .z) .z))
def S230 (c : CV) (a0 : AV) (h : AH) : R :=
loopC (σ := AV × Unit) NN (fun i3 s0 h1 d2 =>
pNil s0.1 fun v4 =>
pFieldA v4 18 fun v5 =>
pLoad1 h1 v5 fun v6 =>
pLenS v6 fun v7 =>
pInt .gtr v7 (.int .i64 (.ofNat 0)) fun v8 =>
pCond v8 (
pCall c (.fn 226 [] []) [s0.1] h1 fun v9 h10 =>
pBox h10 286 (.agg [(.int .i64 (.ofNat 0)), (.int .i64 (.ofNat 0)), (.int .u64 (.ofNat 0)), (.int .u64 (.ofNat 0)), (.int .u64 (.ofNat 0)), (.int .u64 (.ofNat 0)), (.int .u64 (.ofNat 0)), (.int .u64 (.ofNat 0)), (.int .u64 (.ofNat 0)), (.int .u64 (.ofNat 0)), (.int .i64 (.ofNat 0))]) fun v11 h12 =>
pStore h12 v11 v9 11 fun h13 =>
pNil s0.1 fun v14 =>
pFieldA v14 1 fun v15 =>
pLoad1 h13 v15 fun v16 =>
pCall c (.fn 229 [] []) [v16] h13 fun v17 h18 =>
pInt .neq v17 (.int .i64 (.ofNat 0)) fun v19 =>
pCond v19 (
pLeave d2 h18 fun h20 =>
some (v17, h20)) (
pFieldA v11 0 fun v21 =>
pLoad1 h18 v21 fun v22 =>
pInt .eql v22 (.int .i64 (.ofNat 17)) fun v23 =>
pCond v23 (
pLoadN h18 v11 11 fun v24 =>
pCall c (.fn 228 [] []) [s0.1, v24] h18 fun _ h26 =>
pNil s0.1 fun v27 =>
pFieldA v27 2 fun v28 =>
pLoad1 h26 v28 fun v29 =>
pFieldA v11 1 fun v30 =>
pLoad1 h26 v30 fun v31 =>
pIdxS v29 v31 1 fun v32 =>
pLoad1 h26 v32 fun v33 =>
pInt .add v33 (.int .i64 (.ofNat 1)) fun v34 =>
pNil s0.1 fun v35 =>
pFieldA v35 16 fun v36 =>
pStore h26 v36 v34 1 fun h37 =>
pCall c (.fn 225 [] []) [s0.1, (.int .i64 (.ofNat 18)), v33] h37 fun v38 h39 =>
pLeave d2 h39 fun h40 =>
some (v38, h40)) (
i3 (s0.1, ()) h18 d2))) (
pNil s0.1 fun v41 =>
pFieldA v41 15 fun v42 =>
pLoad1 h1 v42 fun v43 =>
pNil s0.1 fun v44 =>
pFieldA v44 16 fun v45 =>
pStore h1 v45 v43 1 fun h46 =>
pNil s0.1 fun v47 =>
pFieldA v47 5 fun v48 =>
pStore h46 v48 (.int .i64 (.ofNat 3)) 1 fun h49 =>
pLeave d2 h49 fun h50 =>
some ((.int .i64 (.ofNat 0)), h50))) (a0, ()) h []
theorem S230_eq (c : CV) (a0 : AV) (h : AH) : enterK Tryz.prog NN P230 c 230 [a0] h = S230 c a0 h := by kernel_rfl
def W230 (c : CV) (l : List AV) (h : AH) : R := match l with | [a0] => S230 c a0 h | _ => none
theorem W230_ok : WOk Tryz.prog 230 W230 := by
  intro c l h r e
  unfold W230 at e
  split at e
  · exact ⟨P230, by rw [S230_eq]; exact e⟩
  · cases e
/- (*quietus/writes.Writes).Get -/
def P231 : Pl := .z
def S231 (c : CV) (a0 a1 : AV) (h : AH) : R :=
pCall c (.fn 234 [] []) [a0, a1] h fun v0 h1 =>
pInt .geq v0 (.int .i64 (.ofNat 0)) fun v2 =>
pCond v2 (
pNil a0 fun v3 =>
pFieldA v3 1 fun v4 =>
pLoad1 h1 v4 fun v5 =>
pIdxS v5 v0 2 fun v6 =>
pFieldA v6 1 fun v7 =>
pLoad1 h1 v7 fun v8 =>
some ((.tup [v8, (.bool true)]), h1)) (
some ((.tup [(.int .u64 (.ofNat 0)), (.bool false)]), h1))
theorem S231_eq (c : CV) (a0 a1 : AV) (h : AH) : enterK Tryz.prog NN P231 c 231 [a0, a1] h = S231 c a0 a1 h := by kernel_rfl
def W231 (c : CV) (l : List AV) (h : AH) : R := match l with | [a0, a1] => S231 c a0 a1 h | _ => none
theorem W231_ok : WOk Tryz.prog 231 W231 := by
  intro c l h r e
  unfold W231 at e
  split at e
  · exact ⟨P231, by rw [S231_eq]; exact e⟩
  · cases e
/- (*quietus/levels.Levels).in -/
def P232 : Pl := .z
def S232 (_ : CV) (a0 : AV) (h : AH) : R :=
pNil a0 fun v0 =>
pFieldA v0 1 fun v1 =>
pLoad1 h v1 fun v2 =>
pNil a0 fun v3 =>
pFieldA v3 1 fun v4 =>
pLoad1 h v4 fun v5 =>
pLenS v5 fun v6 =>
pInt .sub v6 (.int .i64 (.ofNat 1)) fun v7 =>
pIdxS v2 v7 1 fun v8 =>
pLoad1 h v8 fun v9 =>
some (v9, h)
theorem S232_eq (c : CV) (a0 : AV) (h : AH) : enterK Tryz.prog NN P232 c 232 [a0] h = S232 c a0 h := by kernel_rfl
def W232 (c : CV) (l : List AV) (h : AH) : R := match l with | [a0] => S232 c a0 h | _ => none
theorem W232_ok : WOk Tryz.prog 232 W232 := by
  intro c l h r e
  unfold W232 at e
  split at e
  · exact ⟨P232, by rw [S232_eq]; exact e⟩
  · cases e
/- (*quietus/levels.Levels).Put -/
def P233 : Pl := (.n none .z (.n none (.n none (.r [[14, 12, 2, 1, 0]]) .z) (.n none .z (.n none (.n none .z (.n none (.r [[32, 29, 7, 2, 1]]) .z)) .z))))
def S233 (c : CV) (a0 a1 a2 : AV) (h : AH) : R :=
pInt .lss a1 (.int .i64 (.ofNat 1)) fun v0 =>
joinC (α := AV × AV × AV × AV × AV × Unit → AH → R) (fun s1 h2 =>
pPick s1.2.1 (.bool true) s1.1 fun v4 =>
pCond v4 (
some ((.int .i64 (.ofNat 2)), h2)) (
pCall c (.fn 232 [] []) [s1.2.2.2.2.1] h2 fun v5 h6 =>
pNil v5 fun v7 =>
pFieldA v7 0 fun v8 =>
pLoad1 h6 v8 fun v9 =>
pCall c (.fn 231 [] []) [v9, s1.2.2.2.1] h6 fun v10 h11 =>
pExtract v10 0 fun _ =>
pExtract v10 1 fun v13 =>
pUn .not v13 fun v14 =>
joinC (α := AV × AV × AV × AV × AV × Unit → AH → R) (fun s15 h16 =>
pPick s15.2.1 s15.1 (.bool false) fun v18 =>
pCond v18 (
some ((.int .i64 (.ofNat 5)), h16)) (
pCall c (.fn 196 [] []) [s15.2.2.1, s15.2.2.2.2.1, s15.2.2.2.1] h16 fun v19 h20 =>
some (v19, h20))) fun j17 =>
pWant v14 true (
pCall c (.fn 298 [] []) [s1.2.2.2.2.1] h11 fun v21 h22 =>
pInt .eql v21 (.int .i64 (.ofNat 0)) fun v23 =>
j17 (v23, v14, v9, s1.2.2.1, s1.2.2.2.1, ()) h22) (
j17 (.undef, v14, v9, s1.2.2.1, s1.2.2.2.1, ()) h11))) fun j3 =>
pWant v0 false (
pInt .geq a1 (.int .i64 (.ofNat 256)) fun v24 =>
j3 (v24, v0, a2, a1, a0, ()) h) (
j3 (.undef, v0, a2, a1, a0, ()) h)
theorem S233_eq (c : CV) (a0 a1 a2 : AV) (h : AH) : enterK Tryz.prog NN P233 c 233 [a0, a1, a2] h = S233 c a0 a1 a2 h := by kernel_rfl
def W233 (c : CV) (l : List AV) (h : AH) : R := match l with | [a0, a1, a2] => S233 c a0 a1 a2 h | _ => none
theorem W233_ok : WOk Tryz.prog 233 W233 := by
  intro c l h r e
  unfold W233 at e
  split at e
  · exact ⟨P233, by rw [S233_eq]; exact e⟩
  · cases e
/- (*quietus/writes.Writes).find -/
def P234 : Pl := .z
def S234 (c : CV) (a0 a1 : AV) (h : AH) : R :=
pBox h 3 a1 fun v0 h1 =>
pNil a0 fun v2 =>
pFieldA v2 1 fun v3 =>
pLoad1 h1 v3 fun v4 =>
pCall c (.fn 299 [] []) [v4, (.fn 300 [] [v0])] h1 fun v5 h6 =>
some (v5, h6)
theorem S234_eq (c : CV) (a0 a1 : AV) (h : AH) : enterK Tryz.prog NN P234 c 234 [a0, a1] h = S234 c a0 a1 h := by kernel_rfl
def W234 (c : CV) (l : List AV) (h : AH) : R := match l with | [a0, a1] => S234 c a0 a1 h | _ => none
theorem W234_ok : WOk Tryz.prog 234 W234 := by
  intro c l h r e
  unfold W234 at e
  split at e
  · exact ⟨P234, by rw [S234_eq]; exact e⟩
  · cases e
/- slices.insertionSortOrdered[int] -/
def P235 : Pl := (.n none .z (.n none (.n (some [6, 2, 1, 0]) (.n none .z (.n none (.n none (.n none .z (.n none (.n (some [7, 6, 2, 1, 0]) (.n none (.n none (.r [[29, 19, 7, 6, 2, 1, 0]]) .z) .z) .z) .z)) .z) .z)) .z) .z))
def S235 (c : CV) (a0 a1 a2 : AV) (h : AH) : R :=
pInt .add a1 (.int .i64 (.ofNat 1)) fun v0 =>
loopC (σ := AV × AV × AV × AV × Unit) NN (fun i4 s1 h2 d3 =>
pInt .lss s1.1 s1.2.1 fun v5 =>
pCond v5 (
loopC (σ := AV × AV × AV × AV × AV × Unit) NN (fun i9 s6 h7 d8 =>
pInt .gtr s6.1 s6.2.2.2.1 fun v10 =>
joinC (α := AV × AV × AV × AV × AV × AV × AV × Unit → AH → R) (fun s11 h12 =>
pPick s11.2.1 s11.1 (.bool false) fun v14 =>
pCond v14 (
pInt .sub s11.2.2.1 (.int .i64 (.ofNat 1)) fun v15 =>
pInt .sub s11.2.2.1 (.int .i64 (.ofNat 1)) fun v16 =>
pIdxS s11.2.2.2.2.2.2.1 v16 1 fun v17 =>
pLoad1 h12 v17 fun v18 =>
pIdxS s11.2.2.2.2.2.2.1 s11.2.2.1 1 fun v19 =>
pLoad1 h12 v19 fun v20 =>
pIdxS s11.2.2.2.2.2.2.1 s11.2.2.1 1 fun v21 =>
pStore h12 v21 v18 1 fun h22 =>
pIdxS s11.2.2.2.2.2.2.1 v15 1 fun v23 =>
pStore h22 v23 v20 1 fun h24 =>
pInt .sub s11.2.2.1 (.int .i64 (.ofNat 1)) fun v25 =>
i9 (v25, s11.2.2.2.1, s11.2.2.2.2.1, s11.2.2.2.2.2.1, s11.2.2.2.2.2.2.1, ()) h24 d8) (
pInt .add s11.2.2.2.1 (.int .i64 (.ofNat 1)) fun v26 =>
i4 (v26, s11.2.2.2.2.1, s11.2.2.2.2.2.1, s11.2.2.2.2.2.2.1, ()) h12 d8)) fun j13 =>
pWant v10 true (
pIdxS s6.2.2.2.2.1 s6.1 1 fun v27 =>
pLoad1 h7 v27 fun v28 =>
pInt .sub s6.1 (.int .i64 (.ofNat 1)) fun v29 =>
pIdxS s6.2.2.2.2.1 v29 1 fun v30 =>
pLoad1 h7 v30 fun v31 =>
pCall c (.fn 241 [] []) [v28, v31] h7 fun v32 h33 =>
j13 (v32, v10, s6.1, s6.2.1, s6.2.2.1, s6.2.2.2.1, s6.2.2.2.2.1, ()) h33) (
j13 (.undef, v10, s6.1, s6.2.1, s6.2.2.1, s6.2.2.2.1, s6.2.2.2.2.1, ()) h7)) (s1.1, s1.1, s1.2.1, s1.2.2.1, s1.2.2.2.1, ()) h2 d3) (
pLeave d3 h2 fun h34 =>
some ((.tup []), h34))) (v0, a2, a1, a0, ()) h []
theorem S235_eq (c : CV) (a0 a1 a2 : AV) (h : AH) : enterK Tryz.prog NN P235 c 235 [a0, a1, a2] h = S235 c a0 a1 a2 h := by kernel_rfl
def W235 (c : CV) (l : List AV) (h : AH) : R := match l with | [a0, a1, a2] => S235 c a0 a1 a2 h | _ => none
theorem W235_ok : WOk Tryz.prog 235 W235 := by
  intro c l h r e
  unfold W235 at e
  split at e
  · exact ⟨P235, by rw [S235_eq]; exact e⟩
  · cases e
/- slices.heapSortOrdered[int] -/
def P236 : Pl := (.n none .z (.n none .z (.n none .z (.n none (.n none .z (.n none (.n (some [9, 8, 7, 6, 0]) .z .z) .z)) (.n none .z (.n none (.n (some [10, 7, 6, 0]) .z .z) .z))))))
def S236 (c : CV) (a0 a1 a2 : AV) (h : AH) : R :=
pInt .sub a2 a1 fun v0 =>
pInt .sub v0 (.int .i64 (.ofNat 1)) fun v1 =>
pInt .quo v1 (.int .i64 (.ofNat 2)) fun v2 =>
loopC (σ := AV × AV × AV × AV × AV × Unit) NN (fun i6 s3 h4 d5 =>
pInt .geq s3.1 (.int .i64 (.ofNat 0)) fun v7 =>
pCond v7 (
pCall c (.fn 301 [] []) [s3.2.2.2.2.1, s3.1, s3.2.1, s3.2.2.2.1] h4 fun _ h9 =>
pInt .sub s3.1 (.int .i64 (.ofNat 1)) fun v10 =>
i6 (v10, s3.2.1, s3.2.2.1, s3.2.2.2.1, s3.2.2.2.2.1, ()) h9 d5) (
pInt .sub s3.2.1 (.int .i64 (.ofNat 1)) fun v11 =>
loopC (σ := AV × AV × AV × AV × Unit) NN (fun i15 s12 h13 d14 =>
pInt .geq s12.1 (.int .i64 (.ofNat 0)) fun v16 =>
pCond v16 (
pInt .add s12.2.2.1 s12.1 fun v17 =>
pInt .add s12.2.2.1 s12.1 fun v18 =>
pIdxS s12.2.2.2.1 v18 1 fun v19 =>
pLoad1 h13 v19 fun v20 =>
pIdxS s12.2.2.2.1 s12.2.2.1 1 fun v21 =>
pLoad1 h13 v21 fun v22 =>
pIdxS s12.2.2.2.1 s12.2.2.1 1 fun v23 =>
pStore h13 v23 v20 1 fun h24 =>
pIdxS s12.2.2.2.1 v17 1 fun v25 =>
pStore h24 v25 v22 1 fun h26 =>
pCall c (.fn 301 [] []) [s12.2.2.2.1, s12.2.1, s12.1, s12.2.2.1] h26 fun _ h28 =>
pInt .sub s12.1 (.int .i64 (.ofNat 1)) fun v29 =>
i15 (v29, s12.2.1, s12.2.2.1, s12.2.2.2.1, ()) h28 d14) (
pLeave d14 h13 fun h30 =>
some ((.tup []), h30))) (v11, s3.2.2.1, s3.2.2.2.1, s3.2.2.2.2.1, ()) h4 d5)) (v2, v0, (.int .i64 (.ofNat 0)), a1, a0, ()) h []
theorem S236_eq (c : CV) (a0 a1 a2 : AV) (h : AH) : enterK Tryz.prog NN P236 c 236 [a0, a1, a2] h = S236 c a0 a1 a2 h := by kernel_rfl
def W236 (c : CV) (l : List AV) (h : AH) : R := match l with | [a0, a1, a2] => S236 c a0 a1 a2 h | _ => none
theorem W236_ok : WOk Tryz.prog 236 W236 := by
  intro c l h r e
  unfold W236 at e
  split at e
  · exact ⟨P236, by rw [S236_eq]; exact e⟩
  · cases e
/- slices.breakPatternsOrdered[int] -/
def P237 : Pl := (.n none .z (.n none .z (.n none (.n none .z (.n none .z (.n none .z (.n none (.n (some [9, 8, 7, 6, 1, 0]) (.n none .z (.n none (.n none (.n none .z (.n (some [10, 9, 8, 7, 6, 1, 0]) .z .z)) .z) .z)) .z) .z)))) .z)))
def S237 (c : CV) (a0 a1 a2 : AV) (h : AH) : R :=
pInt .sub a2 a1 fun v0 =>
pInt .geq v0 (.int .i64 (.ofNat 8)) fun v1 =>
pCond v1 (
pConvI .u64 v0 fun v2 =>
pBox h 333 (.int .u64 (.ofNat 0)) fun v3 h4 =>
pStore h4 v3 v2 1 fun h5 =>
pCall c (.fn 302 [] []) [v0] h5 fun v6 h7 =>
pInt .quo v0 (.int .i64 (.ofNat 4)) fun v8 =>
pInt .mul v8 (.int .i64 (.ofNat 2)) fun v9 =>
pInt .add a1 v9 fun v10 =>
pInt .sub v10 (.int .i64 (.ofNat 1)) fun v11 =>
loopC (σ := AV × AV × AV × AV × AV × AV × Unit) NN (fun i15 s12 h13 d14 =>
pInt .quo s12.2.2.2.1 (.int .i64 (.ofNat 4)) fun v16 =>
pInt .mul v16 (.int .i64 (.ofNat 2)) fun v17 =>
pInt .add s12.2.2.2.2.1 v17 fun v18 =>
pInt .add v18 (.int .i64 (.ofNat 1)) fun v19 =>
pInt .leq s12.1 v19 fun v20 =>
pCond v20 (
pCall c (.fn 303 [] []) [s12.2.2.1] h13 fun v21 h22 =>
pInt .sub s12.2.1 (.int .u64 (.ofNat 1)) fun v23 =>
pInt .and v21 v23 fun v24 =>
pConvI .i64 v24 fun v25 =>
joinC (α := AV × AV × AV × AV × AV × AV × AV × Unit → AH → List Nat → R) (fun s26 h27 d28 =>
pInt .add s26.2.2.2.2.2.1 s26.1 fun v30 =>
pInt .add s26.2.2.2.2.2.1 s26.1 fun v31 =>
pIdxS s26.2.2.2.2.2.2.1 v31 1 fun v32 =>
pLoad1 h27 v32 fun v33 =>
pIdxS s26.2.2.2.2.2.2.1 s26.2.1 1 fun v34 =>
pLoad1 h27 v34 fun v35 =>
pIdxS s26.2.2.2.2.2.2.1 s26.2.1 1 fun v36 =>
pStore h27 v36 v33 1 fun h37 =>
pIdxS s26.2.2.2.2.2.2.1 v30 1 fun v38 =>
pStore h37 v38 v35 1 fun h39 =>
pInt .add s26.2.1 (.int .i64 (.ofNat 1)) fun v40 =>
i15 (v40, s26.2.2.1, s26.2.2.2.1, s26.2.2.2.2.1, s26.2.2.2.2.2.1, s26.2.2.2.2.2.2.1, ()) h39 d28) fun j29 =>
pInt .geq v25 s12.2.2.2.1 fun v41 =>
pCond v41 (
pInt .sub v25 s12.2.2.2.1 fun v42 =>
j29 (v42, s12.1, s12.2.1, s12.2.2.1, s12.2.2.2.1, s12.2.2.2.2.1, s12.2.2.2.2.2.1, ()) h22 d14) (
j29 (v25, s12.1, s12.2.1, s12.2.2.1, s12.2.2.2.1, s12.2.2.2.2.1, s12.2.2.2.2.2.1, ()) h22 d14)) (
pLeave d14 h13 fun h43 =>
some ((.tup []), h43))) (v11, v6, v3, v0, a1, a0, ()) h7 []) (
some ((.tup []), h))
theorem S237_eq (c : CV) (a0 a1 a2 : AV) (h : AH) : enterK Tryz.prog NN P237 c 237 [a0, a1, a2] h = S237 c a0 a1 a2 h := by kernel_rfl
def W237 (c : CV) (l : List AV) (h : AH) : R := match l with | [a0, a1, a2] => S237 c a0 a1 a2 h | _ => none
theorem W237_ok : WOk Tryz.prog 237 W237 := by
  intro c l h r e
  unfold W237 at e
  split at e
  · exact ⟨P237, by rw [S237_eq]; exact e⟩
  · cases e
/- slices.choosePivotOrdered[int] -/
def P238 : Pl := (.n none .z (.n none .z (.n none .z (.n none .z (.n none .z (.n none .z (.n (some [11, 9]) (.n none .z (.n none (.n (some [12, 11, 10, 9, 0]) .z .z) .z)) .z)))))))
def S238 (c : CV) (a0 a1 a2 : AV) (h : AH) : R :=
pInt .sub a2 a1 fun v0 =>
pBox h 3 (.int .i64 (.ofNat 0)) fun v1 h2 =>
pInt .quo v0 (.int .i64 (.ofNat 4)) fun v3 =>
pInt .mul v3 (.int .i64 (.ofNat 1)) fun v4 =>
pInt .add a1 v4 fun v5 =>
pInt .quo v0 (.int .i64 (.ofNat 4)) fun v6 =>
pInt .mul v6 (.int .i64 (.ofNat 2)) fun v7 =>
pInt .add a1 v7 fun v8 =>
pInt .quo v0 (.int .i64 (.ofNat 4)) fun v9 =>
pInt .mul v9 (.int .i64 (.ofNat 3)) fun v10 =>
pInt .add a1 v10 fun v11 =>
joinC (α := AV × AV × Unit → AH → List Nat → R) (fun s12 h13 d14 =>
pLoad1 h13 s12.2.1 fun v16 =>
pInt .eql v16 (.int .i64 (.ofNat 0)) fun v17 =>
pCond v17 (
pLeave d14 h13 fun h18 =>
some ((.tup [s12.1, (.int .i64 (.ofNat 1))]), h18)) (
pInt .eql v16 (.int .i64 (.ofNat 12)) fun v19 =>
pCond v19 (
pLeave d14 h13 fun h20 =>
some ((.tup [s12.1, (.int .i64 (.ofNat 2))]), h20)) (
pLeave d14 h13 fun h21 =>
some ((.tup [s12.1, (.int .i64 (.ofNat 0))]), h21)))) fun j15 =>
pInt .geq v0 (.int .i64 (.ofNat 8)) fun v22 =>
pCond v22 (
joinC (α := AV × AV × AV × AV × AV × Unit → AH → List Nat → R) (fun s23 h24 d25 =>
pCall c (.fn 305 [] []) [s23.2.2.2.2.1, s23.2.2.1, s23.2.1, s23.1, s23.2.2.2.1] h24 fun v27 h28 =>
j15 (v27, s23.2.2.2.1, ()) h28 d25) fun j26 =>
pInt .geq v0 (.int .i64 (.ofNat 50)) fun v29 =>
pCond v29 (
pCall c (.fn 304 [] []) [a0, v5, v1] h2 fun v30 h31 =>
pCall c (.fn 304 [] []) [a0, v8, v1] h31 fun v32 h33 =>
pCall c (.fn 304 [] []) [a0, v11, v1] h33 fun v34 h35 =>
j26 (v34, v32, v30, v1, a0, ()) h35 []) (
j26 (v11, v8, v5, v1, a0, ()) h2 [])) (
j15 (v8, v1, ()) h2 [])
theorem S238_eq (c : CV) (a0 a1 a2 : AV) (h : AH) : enterK Tryz.prog NN P238 c 238 [a0, a1, a2] h = S238 c a0 a1 a2 h := by kernel_rfl
def W238 (c : CV) (l : List AV) (h : AH) : R := match l with | [a0, a1, a2] => S238 c a0 a1 a2 h | _ => none
theorem W238_ok : WOk Tryz.prog 238 W238 := by
  intro c l h r e
  unfold W238 at e
  split at e
  · exact ⟨P238, by rw [S238_eq]; exact e⟩
  · cases e
/- slices.reverseRangeOrdered[int] -/
def P239 : Pl := (.n none .z (.n none .z (.n none (.n (some [7, 6, 0]) .z .z) .z)))
def S239 (_ : CV) (a0 a1 a2 : AV) (h : AH) : R :=
pInt .sub a2 (.int .i64 (.ofNat 1)) fun v0 =>
loopC (σ := AV × AV × AV × Unit) NN (fun i4 s1 h2 d3 =>
pInt .lss s1.2.1 s1.1 fun v5 =>
pCond v5 (
pIdxS s1.2.2.1 s1.1 1 fun v6 =>
pLoad1 h2 v6 fun v7 =>
pIdxS s1.2.2.1 s1.2.1 1 fun v8 =>
pLoad1 h2 v8 fun v9 =>
pIdxS s1.2.2.1 s1.2.1 1 fun v10 =>
pStore h2 v10 v7 1 fun h11 =>
pIdxS s1.2.2.1 s1.1 1 fun v12 =>
pStore h11 v12 v9 1 fun h13 =>
pInt .add s1.2.1 (.int .i64 (.ofNat 1)) fun v14 =>
pInt .sub s1.1 (.int .i64 (.ofNat 1)) fun v15 =>
i4 (v15, v14, s1.2.2.1, ()) h13 d3) (
pLeave d3 h2 fun h16 =>
some ((.tup []), h16))) (v0, a1, a0, ()) h []
theorem S239_eq (c : CV) (a0 a1 a2 : AV) (h : AH) : enterK Tryz.prog NN P239 c 239 [a0, a1, a2] h = S239 c a0 a1 a2 h := by kernel_rfl
def W239 (c : CV) (l : List AV) (h : AH) : R := match l with | [a0, a1, a2] => S239 c a0 a1 a2 h | _ => none
theorem W239_ok : WOk Tryz.prog 239 W239 := by
  intro c l h r e
  unfold W239 at e
  split at e
  · exact ⟨P239, by rw [S239_eq]; exact e⟩
  · cases e
/- slices.partialInsertionSortOrdered[int] -/
def P240 : Pl := (.n none .z (.n none .z (.n none (.n none .z (.n none (.n (some [8, 7, 2, 1, 0]) (.n none .z (.n none (.n (some [8, 7, 2, 1, 0]) (.n none (.n none (.n (some [8, 7, 2, 1, 0]) (.n none (.n none (.r [[31, 20, 8, 7, 2, 1, 0]]) .z) .z) .z) .z) (.n none .z (.n none .z (.n none .z (.n (some [8, 7, 2, 1, 0]) (.n none .z (.n none (.n none .z (.n (some [8, 7, 2, 1, 0]) (.n (some [9, 8, 7, 2, 1, 0]) .z .z) .z)) .z)) (.n none .z (.n none (.n none .z (.n (some [8, 7, 2, 1, 0]) (.n (some [10, 8, 7, 2, 1, 0]) .z .z) .z)) .z))))))) .z) .z)) .z) .z)) .z)))
def S240 (c : CV) (a0 a1 a2 : AV) (h : AH) : R :=
pInt .add a1 (.int .i64 (.ofNat 1)) fun v0 =>
loopC (σ := AV × AV × AV × AV × AV × Unit) NN (fun i4 s1 h2 d3 =>
pInt .lss s1.1 (.int .i64 (.ofNat 5)) fun v5 =>
pCond v5 (
joinC (α := AV × AV × AV × AV × AV × Unit → AH → List Nat → R) (fun s6 h7 d8 =>
pInt .add s6.1 (.int .i64 (.ofNat 1)) fun v10 =>
i4 (v10, s6.2.1, s6.2.2.1, s6.2.2.2.1, s6.2.2.2.2.1, ()) h7 d8) fun j9 =>
loopC (σ := AV × AV × AV × AV × AV × Unit) NN (fun i14 s11 h12 d13 =>
pInt .lss s11.2.1 s11.2.2.1 fun v15 =>
joinC (α := AV × AV × AV × AV × AV × AV × AV × Unit → AH → R) (fun s16 h17 =>
pPick s16.2.1 s16.1 (.bool false) fun v19 =>
pCond v19 (
pInt .add s16.2.2.2.1 (.int .i64 (.ofNat 1)) fun v20 =>
i14 (s16.2.2.1, v20, s16.2.2.2.2.1, s16.2.2.2.2.2.1, s16.2.2.2.2.2.2.1, ()) h17 d13) (
pInt .eql s16.2.2.2.1 s16.2.2.2.2.1 fun v21 =>
pCond v21 (
pLeave d13 h17 fun h22 =>
some ((.bool true), h22)) (
pInt .sub s16.2.2.2.2.1 s16.2.2.2.2.2.1 fun v23 =>
pInt .lss v23 (.int .i64 (.ofNat 50)) fun v24 =>
pCond v24 (
pLeave d13 h17 fun h25 =>
some ((.bool false), h25)) (
pInt .sub s16.2.2.2.1 (.int .i64 (.ofNat 1)) fun v26 =>
pInt .sub s16.2.2.2.1 (.int .i64 (.ofNat 1)) fun v27 =>
pIdxS s16.2.2.2.2.2.2.1 v27 1 fun v28 =>
pLoad1 h17 v28 fun v29 =>
pIdxS s16.2.2.2.2.2.2.1 s16.2.2.2.1 1 fun v30 =>
pLoad1 h17 v30 fun v31 =>
pIdxS s16.2.2.2.2.2.2.1 s16.2.2.2.1 1 fun v32 =>
pStore h17 v32 v29 1 fun h33 =>
pIdxS s16.2.2.2.2.2.2.1 v26 1 fun v34 =>
pStore h33 v34 v31 1 fun h35 =>
joinC (α := AV × AV × AV × AV × AV × Unit → AH → List Nat → R) (fun s36 h37 d38 =>
pInt .sub s36.2.2.1 s36.2.1 fun v40 =>
pInt .geq v40 (.int .i64 (.ofNat 2)) fun v41 =>
pCond v41 (
pInt .add s36.2.1 (.int .i64 (.ofNat 1)) fun v42 =>
joinC (α := AV × AV × AV × AV × AV × Unit → AH → List Nat → R) (fun s43 h44 d45 =>
j9 (s43.1, s43.2.1, s43.2.2.1, s43.2.2.2.1, s43.2.2.2.2.1, ()) h44 d45) fun j46 =>
loopC (σ := AV × AV × AV × AV × AV × AV × Unit) NN (fun i50 s47 h48 d49 =>
pInt .lss s47.1 s47.2.2.2.1 fun v51 =>
pCond v51 (
pIdxS s47.2.2.2.2.2.1 s47.1 1 fun v52 =>
pLoad1 h48 v52 fun v53 =>
pInt .sub s47.1 (.int .i64 (.ofNat 1)) fun v54 =>
pIdxS s47.2.2.2.2.2.1 v54 1 fun v55 =>
pLoad1 h48 v55 fun v56 =>
pCall c (.fn 241 [] []) [v53, v56] h48 fun v57 h58 =>
pUn .not v57 fun v59 =>
pCond v59 (
j46 (s47.2.1, s47.2.2.1, s47.2.2.2.1, s47.2.2.2.2.1, s47.2.2.2.2.2.1, ()) h58 d49) (
pInt .sub s47.1 (.int .i64 (.ofNat 1)) fun v60 =>
pInt .sub s47.1 (.int .i64 (.ofNat 1)) fun v61 =>
pIdxS s47.2.2.2.2.2.1 v61 1 fun v62 =>
pLoad1 h58 v62 fun v63 =>
pIdxS s47.2.2.2.2.2.1 s47.1 1 fun v64 =>
pLoad1 h58 v64 fun v65 =>
pIdxS s47.2.2.2.2.2.1 s47.1 1 fun v66 =>
pStore h58 v66 v63 1 fun h67 =>
pIdxS s47.2.2.2.2.2.1 v60 1 fun v68 =>
pStore h67 v68 v65 1 fun h69 =>
pInt .add s47.1 (.int .i64 (.ofNat 1)) fun v70 =>
i50 (v70, s47.2.1, s47.2.2.1, s47.2.2.2.1, s47.2.2.2.2.1, s47.2.2.2.2.2.1, ()) h69 d49)) (
j46 (s47.2.1, s47.2.2.1, s47.2.2.2.1, s47.2.2.2.2.1, s47.2.2.2.2.2.1, ()) h48 d49)) (v42, s36.1, s36.2.1, s36.2.2.1, s36.2.2.2.1, s36.2.2.2.2.1, ()) h37 d38) (
j9 (s36.1, s36.2.1, s36.2.2.1, s36.2.2.2.1, s36.2.2.2.2.1, ()) h37 d38)) fun j39 =>
pInt .sub s16.2.2.2.1 s16.2.2.2.2.2.1 fun v71 =>
pInt .geq v71 (.int .i64 (.ofNat 2)) fun v72 =>
pCond v72 (
pInt .sub s16.2.2.2.1 (.int .i64 (.ofNat 1)) fun v73 =>
joinC (α := AV × AV × AV × AV × AV × Unit → AH → List Nat → R) (fun s74 h75 d76 =>
j39 (s74.1, s74.2.1, s74.2.2.1, s74.2.2.2.1, s74.2.2.2.2.1, ()) h75 d76) fun j77 =>
loopC (σ := AV × AV × AV × AV × AV × AV × Unit) NN (fun i81 s78 h79 d80 =>
pInt .geq s78.1 (.int .i64 (.ofNat 1)) fun v82 =>
pCond v82 (
pIdxS s78.2.2.2.2.2.1 s78.1 1 fun v83 =>
pLoad1 h79 v83 fun v84 =>
pInt .sub s78.1 (.int .i64 (.ofNat 1)) fun v85 =>
pIdxS s78.2.2.2.2.2.1 v85 1 fun v86 =>
pLoad1 h79 v86 fun v87 =>
pCall c (.fn 241 [] []) [v84, v87] h79 fun v88 h89 =>
pUn .not v88 fun v90 =>
pCond v90 (
j77 (s78.2.1, s78.2.2.1, s78.2.2.2.1, s78.2.2.2.2.1, s78.2.2.2.2.2.1, ()) h89 d80) (
pInt .sub s78.1 (.int .i64 (.ofNat 1)) fun v91 =>
pInt .sub s78.1 (.int .i64 (.ofNat 1)) fun v92 =>
pIdxS s78.2.2.2.2.2.1 v92 1 fun v93 =>
pLoad1 h89 v93 fun v94 =>
pIdxS s78.2.2.2.2.2.1 s78.1 1 fun v95 =>
pLoad1 h89 v95 fun v96 =>
pIdxS s78.2.2.2.2.2.1 s78.1 1 fun v97 =>
pStore h89 v97 v94 1 fun h98 =>
pIdxS s78.2.2.2.2.2.1 v91 1 fun v99 =>
pStore h98 v99 v96 1 fun h100 =>
pInt .sub s78.1 (.int .i64 (.ofNat 1)) fun v101 =>
i81 (v101, s78.2.1, s78.2.2.1, s78.2.2.2.1, s78.2.2.2.2.1, s78.2.2.2.2.2.1, ()) h100 d80)) (
j77 (s78.2.1, s78.2.2.1, s78.2.2.2.1, s78.2.2.2.2.1, s78.2.2.2.2.2.1, ()) h79 d80)) (v73, s16.2.2.1, s16.2.2.2.1, s16.2.2.2.2.1, s16.2.2.2.2.2.1, s16.2.2.2.2.2.2.1, ()) h35 d13) (
j39 (s16.2.2.1, s16.2.2.2.1, s16.2.2.2.2.1, s16.2.2.2.2.2.1, s16.2.2.2.2.2.2.1, ()) h35 d13))))) fun j18 =>
pWant v15 true (
pIdxS s11.2.2.2.2.1 s11.2.1 1 fun v102 =>
pLoad1 h12 v102 fun v103 =>
pInt .sub s11.2.1 (.int .i64 (.ofNat 1)) fun v104 =>
pIdxS s11.2.2.2.2.1 v104 1 fun v105 =>
pLoad1 h12 v105 fun v106 =>
pCall c (.fn 241 [] []) [v103, v106] h12 fun v107 h108 =>
pUn .not v107 fun v109 =>
j18 (v109, v15, s11.1, s11.2.1, s11.2.2.1, s11.2.2.2.1, s11.2.2.2.2.1, ()) h108) (
j18 (.undef, v15, s11.1, s11.2.1, s11.2.2.1, s11.2.2.2.1, s11.2.2.2.2.1, ()) h12)) (s1.1, s1.2.1, s1.2.2.1, s1.2.2.2.1, s1.2.2.2.2.1, ()) h2 d3) (
pLeave d3 h2 fun h110 =>
some ((.bool false), h110))) ((.int .i64 (.ofNat 0)), v0, a2, a1, a0, ()) h []
theorem S240_eq (c : CV) (a0 a1 a2 : AV) (h : AH) : enterK Tryz.prog NN P240 c 240 [a0, a1, a2] h = S240 c a0 a1 a2 h := by kernel_rfl
def W240 (c : CV) (l : List AV) (h : AH) : R := match l with | [a0, a1, a2] => S240 c a0 a1 a2 h | _ => none
theorem W240_ok : WOk Tryz.prog 240 W240 := by
  intro c l h r e
  unfold W240 at e
  split at e
  · exact ⟨P240, by rw [S240_eq]; exact e⟩
  · cases e
/- cmp.Less[int] -/
def P241 : Pl := (.n none .z (.n none (.r [[10, 7, 1, 0], [15, 12]]) .z))
def S241 (c : CV) (a0 a1 : AV) (h : AH) : R :=
pCall c (.fn 306 [] []) [a0] h fun v0 h1 =>
joinC (α := AV × AV × AV × AV × Unit → AH → R) (fun s2 h3 =>
pPick s2.2.1 s2.1 (.bool false) fun v5 =>
joinC (α := AV × AV × Unit → AH → R) (fun s6 h7 =>
pPick s6.2.1 (.bool true) s6.1 fun v9 =>
some (v9, h7)) fun j8 =>
pWant v5 false (
pInt .lss s2.2.2.2.1 s2.2.2.1 fun v10 =>
j8 (v10, v5, ()) h3) (
j8 (.undef, v5, ()) h3)) fun j4 =>
pWant v0 true (
pCall c (.fn 306 [] []) [a1] h1 fun v11 h12 =>
pUn .not v11 fun v13 =>
j4 (v13, v0, a1, a0, ()) h12) (
j4 (.undef, v0, a1, a0, ()) h1)
theorem S241_eq (c : CV) (a0 a1 : AV) (h : AH) : enterK Tryz.prog NN P241 c 241 [a0, a1] h = S241 c a0 a1 h := by kernel_rfl
def W241 (c : CV) (l : List AV) (h : AH) : R := match l with | [a0, a1] => S241 c a0 a1 h | _ => none
theorem W241_ok : WOk Tryz.prog 241 W241 := by
  intro c l h r e
  unfold W241 at e
  split at e
  · exact ⟨P241, by rw [S241_eq]; exact e⟩
  · cases e
/- slices.partitionEqualOrdered[int] -/
def P242 : Pl := (.n none .z (.n none .z (.n none .z (.n none (.n none (.n (some [10, 9, 1, 0]) (.n none (.n none (.n none (.n (some [10, 9, 1, 0]) (.n none (.n none (.r [[42, 32, 10, 9, 1, 0]]) .z) .z) .z) .z) (.n none (.n none (.n (some [10, 9, 1, 0]) (.n none (.n none (.r [[58, 49, 10, 9, 1, 0]]) .z) .z) .z) .z) .z)) .z) .z) .z) .z))))
def S242 (c : CV) (a0 a1 a2 a3 : AV) (h : AH) : R :=
pIdxS a0 a3 1 fun v0 =>
pLoad1 h v0 fun v1 =>
pIdxS a0 a1 1 fun v2 =>
pLoad1 h v2 fun v3 =>
pIdxS a0 a1 1 fun v4 =>
pStore h v4 v1 1 fun h5 =>
pIdxS a0 a3 1 fun v6 =>
pStore h5 v6 v3 1 fun h7 =>
pInt .add a1 (.int .i64 (.ofNat 1)) fun v8 =>
pInt .sub a2 (.int .i64 (.ofNat 1)) fun v9 =>
loopC (σ := AV × AV × AV × AV × Unit) NN (fun i13 s10 h11 d12 =>
loopC (σ := AV × AV × AV × AV × Unit) NN (fun i17 s14 h15 d16 =>
pInt .leq s14.2.1 s14.1 fun v18 =>
joinC (α := AV × AV × AV × AV × AV × AV × Unit → AH → R) (fun s19 h20 =>
pPick s19.2.1 s19.1 (.bool false) fun v22 =>
pCond v22 (
pInt .add s19.2.2.2.1 (.int .i64 (.ofNat 1)) fun v23 =>
i17 (s19.2.2.1, v23, s19.2.2.2.2.1, s19.2.2.2.2.2.1, ()) h20 d16) (
loopC (σ := AV × AV × AV × AV × Unit) NN (fun i27 s24 h25 d26 =>
pInt .leq s24.2.1 s24.1 fun v28 =>
joinC (α := AV × AV × AV × AV × AV × AV × Unit → AH → R) (fun s29 h30 =>
pPick s29.2.1 s29.1 (.bool false) fun v32 =>
pCond v32 (
pInt .sub s29.2.2.1 (.int .i64 (.ofNat 1)) fun v33 =>
i27 (v33, s29.2.2.2.1, s29.2.2.2.2.1, s29.2.2.2.2.2.1, ()) h30 d26) (
pInt .gtr s29.2.2.2.1 s29.2.2.1 fun v34 =>
pCond v34 (
pLeave d26 h30 fun h35 =>
some (s29.2.2.2.1, h35)) (
pIdxS s29.2.2.2.2.2.1 s29.2.2.1 1 fun v36 =>
pLoad1 h30 v36 fun v37 =>
pIdxS s29.2.2.2.2.2.1 s29.2.2.2.1 1 fun v38 =>
pLoad1 h30 v38 fun v39 =>
pIdxS s29.2.2.2.2.2.1 s29.2.2.2.1 1 fun v40 =>
pStore h30 v40 v37 1 fun h41 =>
pIdxS s29.2.2.2.2.2.1 s29.2.2.1 1 fun v42 =>
pStore h41 v42 v39 1 fun h43 =>
pInt .add s29.2.2.2.1 (.int .i64 (.ofNat 1)) fun v44 =>
pInt .sub s29.2.2.1 (.int .i64 (.ofNat 1)) fun v45 =>
i13 (v45, v44, s29.2.2.2.2.1, s29.2.2.2.2.2.1, ()) h43 d26))) fun j31 =>
pWant v28 true (
pIdxS s24.2.2.2.1 s24.2.2.1 1 fun v46 =>
pLoad1 h25 v46 fun v47 =>
pIdxS s24.2.2.2.1 s24.1 1 fun v48 =>
pLoad1 h25 v48 fun v49 =>
pCall c (.fn 241 [] []) [v47, v49] h25 fun v50 h51 =>
j31 (v50, v28, s24.1, s24.2.1, s24.2.2.1, s24.2.2.2.1, ()) h51) (
j31 (.undef, v28, s24.1, s24.2.1, s24.2.2.1, s24.2.2.2.1, ()) h25)) (s19.2.2.1, s19.2.2.2.1, s19.2.2.2.2.1, s19.2.2.2.2.2.1, ()) h20 d16)) fun j21 =>
pWant v18 true (
pIdxS s14.2.2.2.1 s14.2.2.1 1 fun v52 =>
pLoad1 h15 v52 fun v53 =>
pIdxS s14.2.2.2.1 s14.2.1 1 fun v54 =>
pLoad1 h15 v54 fun v55 =>
pCall c (.fn 241 [] []) [v53, v55] h15 fun v56 h57 =>
pUn .not v56 fun v58 =>
j21 (v58, v18, s14.1, s14.2.1, s14.2.2.1, s14.2.2.2.1, ()) h57) (
j21 (.undef, v18, s14.1, s14.2.1, s14.2.2.1, s14.2.2.2.1, ()) h15)) (s10.1, s10.2.1, s10.2.2.1, s10.2.2.2.1, ()) h11 d12) (v9, v8, a1, a0, ()) h7 []
theorem S242_eq (c : CV) (a0 a1 a2 a3 : AV) (h : AH) : enterK Tryz.prog NN P242 c 242 [a0, a1, a2, a3] h = S242 c a0 a1 a2 a3 h := by kernel_rfl
def W242 (c : CV) (l : List AV) (h : AH) : R := match l with | [a0, a1, a2, a3] => S242 c a0 a1 a2 a3 h | _ => none
theorem W242_ok : WOk Tryz.prog 242 W242 := by
  intro c l h r e
  unfold W242 at e
  split at e
  · exact ⟨P242, by rw [S242_eq]; exact e⟩
  · cases e
/- slices.partitionOrdered[int] -/
def P243 : Pl := (.n none .z (.n none .z (.n none .z (.n none (.n none (.n (some [11, 10, 1, 0]) (.n none (.n none (.r [[42, 33, 11, 10, 1, 0]]) .z) .z) .z) .z) (.n none (.n none (.n (some [11, 10, 1, 0]) (.n none (.n none (.r [[59, 49, 11, 10, 1, 0]]) .z) .z) .z) .z) (.n none .z (.n none .z (.n none .z (.n none .z (.n none (.n none (.n (some [11, 10, 1, 0]) (.n none (.n none (.n none (.n (some [11, 10, 1, 0]) (.n none (.n none (.r [[111, 102, 11, 10, 1, 0]]) .z) .z) .z) .z) (.n none (.n none (.n (some [11, 10, 1, 0]) (.n none (.n none (.r [[128, 118, 11, 10, 1, 0]]) .z) .z) .z) .z) .z)) .z) .z) .z) .z))))))))))
def S243 (c : CV) (a0 a1 a2 a3 : AV) (h : AH) : R :=
pIdxS a0 a3 1 fun v0 =>
pLoad1 h v0 fun v1 =>
pIdxS a0 a1 1 fun v2 =>
pLoad1 h v2 fun v3 =>
pIdxS a0 a1 1 fun v4 =>
pStore h v4 v1 1 fun h5 =>
pIdxS a0 a3 1 fun v6 =>
pStore h5 v6 v3 1 fun h7 =>
pInt .add a1 (.int .i64 (.ofNat 1)) fun v8 =>
pInt .sub a2 (.int .i64 (.ofNat 1)) fun v9 =>
loopC (σ := AV × AV × AV × AV × Unit) NN (fun i13 s10 h11 d12 =>
pInt .leq s10.2.1 s10.1 fun v14 =>
joinC (α := AV × AV × AV × AV × AV × AV × Unit → AH → R) (fun s15 h16 =>
pPick s15.2.1 s15.1 (.bool false) fun v18 =>
pCond v18 (
pInt .add s15.2.2.2.1 (.int .i64 (.ofNat 1)) fun v19 =>
i13 (s15.2.2.1, v19, s15.2.2.2.2.1, s15.2.2.2.2.2.1, ()) h16 d12) (
loopC (σ := AV × AV × AV × AV × Unit) NN (fun i23 s20 h21 d22 =>
pInt .leq s20.2.1 s20.1 fun v24 =>
joinC (α := AV × AV × AV × AV × AV × AV × Unit → AH → R) (fun s25 h26 =>
pPick s25.2.1 s25.1 (.bool false) fun v28 =>
pCond v28 (
pInt .sub s25.2.2.1 (.int .i64 (.ofNat 1)) fun v29 =>
i23 (v29, s25.2.2.2.1, s25.2.2.2.2.1, s25.2.2.2.2.2.1, ()) h26 d22) (
pInt .gtr s25.2.2.2.1 s25.2.2.1 fun v30 =>
pCond v30 (
pIdxS s25.2.2.2.2.2.1 s25.2.2.2.2.1 1 fun v31 =>
pLoad1 h26 v31 fun v32 =>
pIdxS s25.2.2.2.2.2.1 s25.2.2.1 1 fun v33 =>
pLoad1 h26 v33 fun v34 =>
pIdxS s25.2.2.2.2.2.1 s25.2.2.1 1 fun v35 =>
pStore h26 v35 v32 1 fun h36 =>
pIdxS s25.2.2.2.2.2.1 s25.2.2.2.2.1 1 fun v37 =>
pStore h36 v37 v34 1 fun h38 =>
pLeave d22 h38 fun h39 =>
some ((.tup [s25.2.2.1, (.bool true)]), h39)) (
pIdxS s25.2.2.2.2.2.1 s25.2.2.1 1 fun v40 =>
pLoad1 h26 v40 fun v41 =>
pIdxS s25.2.2.2.2.2.1 s25.2.2.2.1 1 fun v42 =>
pLoad1 h26 v42 fun v43 =>
pIdxS s25.2.2.2.2.2.1 s25.2.2.2.1 1 fun v44 =>
pStore h26 v44 v41 1 fun h45 =>
pIdxS s25.2.2.2.2.2.1 s25.2.2.1 1 fun v46 =>
pStore h45 v46 v43 1 fun h47 =>
pInt .add s25.2.2.2.1 (.int .i64 (.ofNat 1)) fun v48 =>
pInt .sub s25.2.2.1 (.int .i64 (.ofNat 1)) fun v49 =>
loopC (σ := AV × AV × AV × AV × Unit) NN (fun i53 s50 h51 d52 =>
loopC (σ := AV × AV × AV × AV × Unit) NN (fun i57 s54 h55 d56 =>
pInt .leq s54.2.1 s54.1 fun v58 =>
joinC (α := AV × AV × AV × AV × AV × AV × Unit → AH → R) (fun s59 h60 =>
pPick s59.2.1 s59.1 (.bool false) fun v62 =>
pCond v62 (
pInt .add s59.2.2.2.1 (.int .i64 (.ofNat 1)) fun v63 =>
i57 (s59.2.2.1, v63, s59.2.2.2.2.1, s59.2.2.2.2.2.1, ()) h60 d56) (
loopC (σ := AV × AV × AV × AV × Unit) NN (fun i67 s64 h65 d66 =>
pInt .leq s64.2.1 s64.1 fun v68 =>
joinC (α := AV × AV × AV × AV × AV × AV × Unit → AH → R) (fun s69 h70 =>
pPick s69.2.1 s69.1 (.bool false) fun v72 =>
pCond v72 (
pInt .sub s69.2.2.1 (.int .i64 (.ofNat 1)) fun v73 =>
i67 (v73, s69.2.2.2.1, s69.2.2.2.2.1, s69.2.2.2.2.2.1, ()) h70 d66) (
pInt .gtr s69.2.2.2.1 s69.2.2.1 fun v74 =>
pCond v74 (
pIdxS s69.2.2.2.2.2.1 s69.2.2.2.2.1 1 fun v75 =>
pLoad1 h70 v75 fun v76 =>
pIdxS s69.2.2.2.2.2.1 s69.2.2.1 1 fun v77 =>
pLoad1 h70 v77 fun v78 =>
pIdxS s69.2.2.2.2.2.1 s69.2.2.1 1 fun v79 =>
pStore h70 v79 v76 1 fun h80 =>
pIdxS s69.2.2.2.2.2.1 s69.2.2.2.2.1 1 fun v81 =>
pStore h80 v81 v78 1 fun h82 =>
pLeave d66 h82 fun h83 =>
some ((.tup [s69.2.2.1, (.bool false)]), h83)) (
pIdxS s69.2.2.2.2.2.1 s69.2.2.1 1 fun v84 =>
pLoad1 h70 v84 fun v85 =>
pIdxS s69.2.2.2.2.2.1 s69.2.2.2.1 1 fun v86 =>
pLoad1 h70 v86 fun v87 =>
pIdxS s69.2.2.2.2.2.1 s69.2.2.2.1 1 fun v88 =>
pStore h70 v88 v85 1 fun h89 =>
pIdxS s69.2.2.2.2.2.1 s69.2.2.1 1 fun v90 =>
pStore h89 v90 v87 1 fun h91 =>
pInt .add s69.2.2.2.1 (.int .i64 (.ofNat 1)) fun v92 =>
pInt .sub s69.2.2.1 (.int .i64 (.ofNat 1)) fun v93 =>
i53 (v93, v92, s69.2.2.2.2.1, s69.2.2.2.2.2.1, ()) h91 d66))) fun j71 =>
pWant v68 true (
pIdxS s64.2.2.2.1 s64.1 1 fun v94 =>
pLoad1 h65 v94 fun v95 =>
pIdxS s64.2.2.2.1 s64.2.2.1 1 fun v96 =>
pLoad1 h65 v96 fun v97 =>
pCall c (.fn 241 [] []) [v95, v97] h65 fun v98 h99 =>
pUn .not v98 fun v100 =>
j71 (v100, v68, s64.1, s64.2.1, s64.2.2.1, s64.2.2.2.1, ()) h99) (
j71 (.undef, v68, s64.1, s64.2.1, s64.2.2.1, s64.2.2.2.1, ()) h65)) (s59.2.2.1, s59.2.2.2.1, s59.2.2.2.2.1, s59.2.2.2.2.2.1, ()) h60 d56)) fun j61 =>
pWant v58 true (
pIdxS s54.2.2.2.1 s54.2.1 1 fun v101 =>
pLoad1 h55 v101 fun v102 =>
pIdxS s54.2.2.2.1 s54.2.2.1 1 fun v103 =>
pLoad1 h55 v103 fun v104 =>
pCall c (.fn 241 [] []) [v102, v104] h55 fun v105 h106 =>
j61 (v105, v58, s54.1, s54.2.1, s54.2.2.1, s54.2.2.2.1, ()) h106) (
j61 (.undef, v58, s54.1, s54.2.1, s54.2.2.1, s54.2.2.2.1, ()) h55)) (s50.1, s50.2.1, s50.2.2.1, s50.2.2.2.1, ()) h51 d52) (v49, v48, s25.2.2.2.2.1, s25.2.2.2.2.2.1, ()) h47 d22))) fun j27 =>
pWant v24 true (
pIdxS s20.2.2.2.1 s20.1 1 fun v107 =>
pLoad1 h21 v107 fun v108 =>
pIdxS s20.2.2.2.1 s20.2.2.1 1 fun v109 =>
pLoad1 h21 v109 fun v110 =>
pCall c (.fn 241 [] []) [v108, v110] h21 fun v111 h112 =>
pUn .not v111 fun v113 =>
j27 (v113, v24, s20.1, s20.2.1, s20.2.2.1, s20.2.2.2.1, ()) h112) (
j27 (.undef, v24, s20.1, s20.2.1, s20.2.2.1, s20.2.2.2.1, ()) h21)) (s15.2.2.1, s15.2.2.2.1, s15.2.2.2.2.1, s15.2.2.2.2.2.1, ()) h16 d12)) fun j17 =>
pWant v14 true (
pIdxS s10.2.2.2.1 s10.2.1 1 fun v114 =>
pLoad1 h11 v114 fun v115 =>
pIdxS s10.2.2.2.1 s10.2.2.1 1 fun v116 =>
pLoad1 h11 v116 fun v117 =>
pCall c (.fn 241 [] []) [v115, v117] h11 fun v118 h119 =>
j17 (v118, v14, s10.1, s10.2.1, s10.2.2.1, s10.2.2.2.1, ()) h119) (
j17 (.undef, v14, s10.1, s10.2.1, s10.2.2.1, s10.2.2.2.1, ()) h11)) (v9, v8, a1, a0, ()) h7 []
theorem S243_eq (c : CV) (a0 a1 a2 a3 : AV) (h : AH) : enterK Tryz.prog NN P243 c 243 [a0, a1, a2, a3] h = S243 c a0 a1 a2 a3 h := by kernel_rfl
def W243 (c : CV) (l : List AV) (h : AH) : R := match l with | [a0, a1, a2, a3] => S243 c a0 a1 a2 a3 h | _ => none
theorem W243_ok : WOk Tryz.prog 243 W243 := by
  intro c l h r e
  unfold W243 at e
  split at e
  · exact ⟨P243, by rw [S243_eq]; exact e⟩
  · cases e
/- math/bits.Len32 -/
def P244 : Pl := (.n none .z (.n (some [2, 0]) .z (.n (some [2, 0]) .z .z)))
def S244 (_ : CV) (a0 : AV) (h : AH) : R :=
joinC (α := AV × AV × Unit → AH → List Nat → R) (fun s0 h1 d2 =>
joinC (α := AV × AV × Unit → AH → List Nat → R) (fun s4 h5 d6 =>
pConvI .u8 s4.2.1 fun v8 =>
pIdxStr (.str [0, 1, 2, 2, 3, 3, 3, 3, 4, 4, 4, 4, 4, 4, 4, 4, 5, 5, 5, 5, 5, 5, 5, 5, 5, 5, 5, 5, 5, 5, 5, 5, 6, 6, 6, 6, 6, 6, 6, 6, 6, 6, 6, 6, 6, 6, 6, 6, 6, 6, 6, 6, 6, 6, 6, 6, 6, 6, 6, 6, 6, 6, 6, 6, 7, 7, 7, 7, 7, 7, 7, 7, 7, 7, 7, 7, 7, 7, 7, 7, 7, 7, 7, 7, 7, 7, 7, 7, 7, 7, 7, 7, 7, 7, 7, 7, 7, 7, 7, 7, 7, 7, 7, 7, 7, 7, 7, 7, 7, 7, 7, 7, 7, 7, 7, 7, 7, 7, 7, 7, 7, 7, 7, 7, 7, 7, 7, 7, 8, 8, 8, 8, 8, 8, 8, 8, 8, 8, 8, 8, 8, 8, 8, 8, 8, 8, 8, 8, 8, 8, 8, 8, 8, 8, 8, 8, 8, 8, 8, 8, 8, 8, 8, 8, 8, 8, 8, 8, 8, 8, 8, 8, 8, 8, 8, 8, 8, 8, 8, 8, 8, 8, 8, 8, 8, 8, 8, 8, 8, 8, 8, 8, 8, 8, 8, 8, 8, 8, 8, 8, 8, 8, 8, 8, 8, 8, 8, 8, 8, 8, 8, 8, 8, 8, 8, 8, 8, 8, 8, 8, 8, 8, 8, 8, 8, 8, 8, 8, 8, 8, 8, 8, 8, 8, 8, 8, 8, 8, 8, 8, 8, 8, 8, 8, 8, 8, 8, 8, 8, 8, 8, 8, 8, 8, 8, 8]) v8 fun v9 =>
pConvI .i64 v9 fun v10 =>
pInt .add s4.1 v10 fun v11 =>
pLeave d6 h5 fun h12 =>
some (v11, h12)) fun j7 =>
pInt .geq s0.2.1 (.int .u32 (.ofNat 256)) fun v13 =>
pCond v13 (
pShift .shr s0.2.1 (.int .u64 (.ofNat 8)) fun v14 =>
pInt .add s0.1 (.int .i64 (.ofNat 8)) fun v15 =>
j7 (v15, v14, ()) h1 d2) (
j7 (s0.1, s0.2.1, ()) h1 d2)) fun j3 =>
pInt .geq a0 (.int .u32 (.ofNat 65536)) fun v16 =>
pCond v16 (
pShift .shr a0 (.int .u64 (.ofNat 16)) fun v17 =>
j3 ((.int .i64 (.ofNat 16)), v17, ()) h []) (
j3 ((.int .i64 (.ofNat 0)), a0, ()) h [])
theorem S244_eq (c : CV) (a0 : AV) (h : AH) : enterK Tryz.prog NN P244 c 244 [a0] h = S244 c a0 h := by kernel_rfl
def W244 (c : CV) (l : List AV) (h : AH) : R := match l with | [a0] => S244 c a0 h | _ => none
theorem W244_ok : WOk Tryz.prog 244 W244 := by
  intro c l h r e
  unfold W244 at e
  split at e
  · exact ⟨P244, by rw [S244_eq]; exact e⟩
  · cases e
/- math/bits.Len64 -/
def P245 : Pl := (.n none .z (.n (some [2, 0]) .z (.n (some [2, 0]) .z (.n (some [2, 0]) .z .z))))
def S245 (_ : CV) (a0 : AV) (h : AH) : R :=
joinC (α := AV × AV × Unit → AH → List Nat → R) (fun s0 h1 d2 =>
joinC (α := AV × AV × Unit → AH → List Nat → R) (fun s4 h5 d6 =>
joinC (α := AV × AV × Unit → AH → List Nat → R) (fun s8 h9 d10 =>
pConvI .u8 s8.2.1 fun v12 =>
pIdxStr (.str [0, 1, 2, 2, 3, 3, 3, 3, 4, 4, 4, 4, 4, 4, 4, 4, 5, 5, 5, 5, 5, 5, 5, 5, 5, 5, 5, 5, 5, 5, 5, 5, 6, 6, 6, 6, 6, 6, 6, 6, 6, 6, 6, 6, 6, 6, 6, 6, 6, 6, 6, 6, 6, 6, 6, 6, 6, 6, 6, 6, 6, 6, 6, 6, 7, 7, 7, 7, 7, 7, 7, 7, 7, 7, 7, 7, 7, 7, 7, 7, 7, 7, 7, 7, 7, 7, 7, 7, 7, 7, 7, 7, 7, 7, 7, 7, 7, 7, 7, 7, 7, 7, 7, 7, 7, 7, 7, 7, 7, 7, 7, 7, 7, 7, 7, 7, 7, 7, 7, 7, 7, 7, 7, 7, 7, 7, 7, 7, 8, 8, 8, 8, 8, 8, 8, 8, 8, 8, 8, 8, 8, 8, 8, 8, 8, 8, 8, 8, 8, 8, 8, 8, 8, 8, 8, 8, 8, 8, 8, 8, 8, 8, 8, 8, 8, 8, 8, 8, 8, 8, 8, 8, 8, 8, 8, 8, 8, 8, 8, 8, 8, 8, 8, 8, 8, 8, 8, 8, 8, 8, 8, 8, 8, 8, 8, 8, 8, 8, 8, 8, 8, 8, 8, 8, 8, 8, 8, 8, 8, 8, 8, 8, 8, 8, 8, 8, 8, 8, 8, 8, 8, 8, 8, 8, 8, 8, 8, 8, 8, 8, 8, 8, 8, 8, 8, 8, 8, 8, 8, 8, 8, 8, 8, 8, 8, 8, 8, 8, 8, 8, 8, 8, 8, 8, 8, 8]) v12 fun v13 =>
pConvI .i64 v13 fun v14 =>
pInt .add s8.1 v14 fun v15 =>
pLeave d10 h9 fun h16 =>
some (v15, h16)) fun j11 =>
pInt .geq s4.2.1 (.int .u64 (.ofNat 256)) fun v17 =>
pCond v17 (
pShift .shr s4.2.1 (.int .u64 (.ofNat 8)) fun v18 =>
pInt .add s4.1 (.int .i64 (.ofNat 8)) fun v19 =>
j11 (v19, v18, ()) h5 d6) (
j11 (s4.1, s4.2.1, ()) h5 d6)) fun j7 =>
pInt .geq s0.2.1 (.int .u64 (.ofNat 65536)) fun v20 =>
pCond v20 (
pShift .shr s0.2.1 (.int .u64 (.ofNat 16)) fun v21 =>
pInt .add s0.1 (.int .i64 (.ofNat 16)) fun v22 =>
j7 (v22, v21, ()) h1 d2) (
j7 (s0.1, s0.2.1, ()) h1 d2)) fun j3 =>
pInt .geq a0 (.int .u64 (.ofNat 4294967296)) fun v23 =>
pCond v23 (
pShift .shr a0 (.int .u64 (.ofNat 32)) fun v24 =>
j3 ((.int .i64 (.ofNat 32)), v24, ()) h []) (
j3 ((.int .i64 (.ofNat 0)), a0, ()) h [])
theorem S245_eq (c : CV) (a0 : AV) (h : AH) : enterK Tryz.prog NN P245 c 245 [a0] h = S245 c a0 h := by kernel_rfl
def W245 (c : CV) (l : List AV) (h : AH) : R := match l with | [a0] => S245 c a0 h | _ => none
theorem W245_ok : WOk Tryz.prog 245 W245 := by
  intro c l h r e
  unfold W245 at e
  split at e
  · exact ⟨P245, by rw [S245_eq]; exact e⟩
  · cases e
/- internal/strconv.small -/
def P246 : Pl := .z
def S246 (_ : CV) (a0 : AV) (h : AH) : R :=
pInt .lss a0 (.int .i64 (.ofNat 10)) fun v0 =>
pCond v0 (
pInt .add a0 (.int .i64 (.ofNat 1)) fun v1 =>
pSliceS (.str [48, 49, 50, 51, 52, 53, 54, 55, 56, 57, 97, 98, 99, 100, 101, 102, 103, 104, 105, 106, 107, 108, 109, 110, 111, 112, 113, 114, 115, 116, 117, 118, 119, 120, 121, 122]) (some a0) (some v1) fun v2 =>
some (v2, h)) (
pInt .mul a0 (.int .i64 (.ofNat 2)) fun v3 =>
pInt .mul a0 (.int .i64 (.ofNat 2)) fun v4 =>
pInt .add v4 (.int .i64 (.ofNat 2)) fun v5 =>
pSliceS (.str [48, 48, 48, 49, 48, 50, 48, 51, 48, 52, 48, 53, 48, 54, 48, 55, 48, 56, 48, 57, 49, 48, 49, 49, 49, 50, 49, 51, 49, 52, 49, 53, 49, 54, 49, 55, 49, 56, 49, 57, 50, 48, 50, 49, 50, 50, 50, 51, 50, 52, 50, 53, 50, 54, 50, 55, 50, 56, 50, 57, 51, 48, 51, 49, 51, 50, 51, 51, 51, 52, 51, 53, 51, 54, 51, 55, 51, 56, 51, 57, 52, 48, 52, 49, 52, 50, 52, 51, 52, 52, 52, 53, 52, 54, 52, 55, 52, 56, 52, 57, 53, 48, 53, 49, 53, 50, 53, 51, 53, 52, 53, 53, 53, 54, 53, 55, 53, 56, 53, 57, 54, 48, 54, 49, 54, 50, 54, 51, 54, 52, 54, 53, 54, 54, 54, 55, 54, 56, 54, 57, 55, 48, 55, 49, 55, 50, 55, 51, 55, 52, 55, 53, 55, 54, 55, 55, 55, 56, 55, 57, 56, 48, 56, 49, 56, 50, 56, 51, 56, 52, 56, 53, 56, 54, 56, 55, 56, 56, 56, 57, 57, 48, 57, 49, 57, 50, 57, 51, 57, 52, 57, 53, 57, 54, 57, 55, 57, 56, 57, 57]) (some v3) (some v5) fun v6 =>
some (v6, h))
theorem S246_eq (c : CV) (a0 : AV) (h : AH) : enterK Tryz.prog NN P246 c 246 [a0] h = S246 c a0 h := by kernel_rfl
def W246 (c : CV) (l : List AV) (h : AH) : R := match l with | [a0] => S246 c a0 h | _ => none
theorem W246_ok : WOk Tryz.prog 246 W246 := by
  intro c l h r e
  unfold W246 at e
  split at e
  · exact ⟨P246, by rw [S246_eq]; exact e⟩
  · cases e
/- internal/strconv.numDigits -/
def P247 : Pl := .z
def S247 (c : CV) (a0 : AV) (h : AH) : R :=
pCall c (.fn 245 [] []) [a0] h fun v0 h1 =>
pCall c (.fn 307 [] []) [v0] h1 fun _ _ =>
none /- op -/
theorem S247_eq (c : CV) (a0 : AV) (h : AH) : enterK Tryz.prog NN P247 c 247 [a0] h = S247 c a0 h := by kernel_rfl
def W247 (c : CV) (l : List AV) (h : AH) : R := match l with | [a0] => S247 c a0 h | _ => none
theorem W247_ok : WOk Tryz.prog 247 W247 := by
  intro c l h r e
  unfold W247 at e
  split at e
  · exact ⟨P247, by rw [S247_eq]; exact e⟩
  · cases e
/- internal/strconv.formatBase10 -/
def P248 : Pl := (.n none .z (.n none (.n none (.n (some [4, 1, 0]) .z .z) .z) (.n none .z (.n (some [12, 4, 0]) .z (.n (some [12, 4, 0]) .z .z)))))
def S248 (_ : CV) (a0 a1 : AV) (h : AH) : R :=
pLenS a0 fun v0 =>
loopC (σ := AV × AV × AV × Unit) NN (fun i4 s1 h2 d3 =>
pInt .geq s1.1 (.int .i64 (.ofNat 8)) fun v5 =>
pCond v5 (
pInt .rem s1.2.1 (.int .u64 (.ofNat 100000000)) fun v6 =>
pConvI .u32 v6 fun v7 =>
pInt .quo s1.2.1 (.int .u64 (.ofNat 100000000)) fun v8 =>
pInt .quo v7 (.int .u32 (.ofNat 10000)) fun v9 =>
pInt .rem v7 (.int .u32 (.ofNat 10000)) fun v10 =>
pInt .quo v10 (.int .u32 (.ofNat 100)) fun v11 =>
pInt .mul v11 (.int .u32 (.ofNat 2)) fun v12 =>
pInt .rem v10 (.int .u32 (.ofNat 100)) fun v13 =>
pInt .mul v13 (.int .u32 (.ofNat 2)) fun v14 =>
pInt .quo v9 (.int .u32 (.ofNat 100)) fun v15 =>
pInt .mul v15 (.int .u32 (.ofNat 2)) fun v16 =>
pInt .rem v9 (.int .u32 (.ofNat 100)) fun v17 =>
pInt .mul v17 (.int .u32 (.ofNat 2)) fun v18 =>
pInt .sub s1.1 (.int .i64 (.ofNat 1)) fun v19 =>
pInt .sub s1.1 (.int .i64 (.ofNat 2)) fun v20 =>
pInt .add v14 (.int .u32 (.ofNat 1)) fun v21 =>
pIdxStr (.str [48, 48, 48, 49, 48, 50, 48, 51, 48, 52, 48, 53, 48, 54, 48, 55, 48, 56, 48, 57, 49, 48, 49, 49, 49, 50, 49, 51, 49, 52, 49, 53, 49, 54, 49, 55, 49, 56, 49, 57, 50, 48, 50, 49, 50, 50, 50, 51, 50, 52, 50, 53, 50, 54, 50, 55, 50, 56, 50, 57, 51, 48, 51, 49, 51, 50, 51, 51, 51, 52, 51, 53, 51, 54, 51, 55, 51, 56, 51, 57, 52, 48, 52, 49, 52, 50, 52, 51, 52, 52, 52, 53, 52, 54, 52, 55, 52, 56, 52, 57, 53, 48, 53, 49, 53, 50, 53, 51, 53, 52, 53, 53, 53, 54, 53, 55, 53, 56, 53, 57, 54, 48, 54, 49, 54, 50, 54, 51, 54, 52, 54, 53, 54, 54, 54, 55, 54, 56, 54, 57, 55, 48, 55, 49, 55, 50, 55, 51, 55, 52, 55, 53, 55, 54, 55, 55, 55, 56, 55, 57, 56, 48, 56, 49, 56, 50, 56, 51, 56, 52, 56, 53, 56, 54, 56, 55, 56, 56, 56, 57, 57, 48, 57, 49, 57, 50, 57, 51, 57, 52, 57, 53, 57, 54, 57, 55, 57, 56, 57, 57]) v21 fun v22 =>
pIdxStr (.str [48, 48, 48, 49, 48, 50, 48, 51, 48, 52, 48, 53, 48, 54, 48, 55, 48, 56, 48, 57, 49, 48, 49, 49, 49, 50, 49, 51, 49, 52, 49, 53, 49, 54, 49, 55, 49, 56, 49, 57, 50, 48, 50, 49, 50, 50, 50, 51, 50, 52, 50, 53, 50, 54, 50, 55, 50, 56, 50, 57, 51, 48, 51, 49, 51, 50, 51, 51, 51, 52, 51, 53, 51, 54, 51, 55, 51, 56, 51, 57, 52, 48, 52, 49, 52, 50, 52, 51, 52, 52, 52, 53, 52, 54, 52, 55, 52, 56, 52, 57, 53, 48, 53, 49, 53, 50, 53, 51, 53, 52, 53, 53, 53, 54, 53, 55, 53, 56, 53, 57, 54, 48, 54, 49, 54, 50, 54, 51, 54, 52, 54, 53, 54, 54, 54, 55, 54, 56, 54, 57, 55, 48, 55, 49, 55, 50, 55, 51, 55, 52, 55, 53, 55, 54, 55, 55, 55, 56, 55, 57, 56, 48, 56, 49, 56, 50, 56, 51, 56, 52, 56, 53, 56, 54, 56, 55, 56, 56, 56, 57, 57, 48, 57, 49, 57, 50, 57, 51, 57, 52, 57, 53, 57, 54, 57, 55, 57, 56, 57, 57]) v14 fun v23 =>
pIdxS s1.2.2.1 v19 1 fun v24 =>
pStore h2 v24 v22 1 fun h25 =>
pIdxS s1.2.2.1 v20 1 fun v26 =>
pStore h25 v26 v23 1 fun h27 =>
pInt .sub s1.1 (.int .i64 (.ofNat 3)) fun v28 =>
pInt .sub s1.1 (.int .i64 (.ofNat 4)) fun v29 =>
pInt .add v12 (.int .u32 (.ofNat 1)) fun v30 =>
pIdxStr (.str [48, 48, 48, 49, 48, 50, 48, 51, 48, 52, 48, 53, 48, 54, 48, 55, 48, 56, 48, 57, 49, 48, 49, 49, 49, 50, 49, 51, 49, 52, 49, 53, 49, 54, 49, 55, 49, 56, 49, 57, 50, 48, 50, 49, 50, 50, 50, 51, 50, 52, 50, 53, 50, 54, 50, 55, 50, 56, 50, 57, 51, 48, 51, 49, 51, 50, 51, 51, 51, 52, 51, 53, 51, 54, 51, 55, 51, 56, 51, 57, 52, 48, 52, 49, 52, 50, 52, 51, 52, 52, 52, 53, 52, 54, 52, 55, 52, 56, 52, 57, 53, 48, 53, 49, 53, 50, 53, 51, 53, 52, 53, 53, 53, 54, 53, 55, 53, 56, 53, 57, 54, 48, 54, 49, 54, 50, 54, 51, 54, 52, 54, 53, 54, 54, 54, 55, 54, 56, 54, 57, 55, 48, 55, 49, 55, 50, 55, 51, 55, 52, 55, 53, 55, 54, 55, 55, 55, 56, 55, 57, 56, 48, 56, 49, 56, 50, 56, 51, 56, 52, 56, 53, 56, 54, 56, 55, 56, 56, 56, 57, 57, 48, 57, 49, 57, 50, 57, 51, 57, 52, 57, 53, 57, 54, 57, 55, 57, 56, 57, 57]) v30 fun v31 =>
pIdxStr (.str [48, 48, 48, 49, 48, 50, 48, 51, 48, 52, 48, 53, 48, 54, 48, 55, 48, 56, 48, 57, 49, 48, 49, 49, 49, 50, 49, 51, 49, 52, 49, 53, 49, 54, 49, 55, 49, 56, 49, 57, 50, 48, 50, 49, 50, 50, 50, 51, 50, 52, 50, 53, 50, 54, 50, 55, 50, 56, 50, 57, 51, 48, 51, 49, 51, 50, 51, 51, 51, 52, 51, 53, 51, 54, 51, 55, 51, 56, 51, 57, 52, 48, 52, 49, 52, 50, 52, 51, 52, 52, 52, 53, 52, 54, 52, 55, 52, 56, 52, 57, 53, 48, 53, 49, 53, 50, 53, 51, 53, 52, 53, 53, 53, 54, 53, 55, 53, 56, 53, 57, 54, 48, 54, 49, 54, 50, 54, 51, 54, 52, 54, 53, 54, 54, 54, 55, 54, 56, 54, 57, 55, 48, 55, 49, 55, 50, 55, 51, 55, 52, 55, 53, 55, 54, 55, 55, 55, 56, 55, 57, 56, 48, 56, 49, 56, 50, 56, 51, 56, 52, 56, 53, 56, 54, 56, 55, 56, 56, 56, 57, 57, 48, 57, 49, 57, 50, 57, 51, 57, 52, 57, 53, 57, 54, 57, 55, 57, 56, 57, 57]) v12 fun v32 =>
pIdxS s1.2.2.1 v28 1 fun v33 =>
pStore h27 v33 v31 1 fun h34 =>
pIdxS s1.2.2.1 v29 1 fun v35 =>
pStore h34 v35 v32 1 fun h36 =>
pInt .sub s1.1 (.int .i64 (.ofNat 5)) fun v37 =>
pInt .sub s1.1 (.int .i64 (.ofNat 6)) fun v38 =>
pInt .add v18 (.int .u32 (.ofNat 1)) fun v39 =>
pIdxStr (.str [48, 48, 48, 49, 48, 50, 48, 51, 48, 52, 48, 53, 48, 54, 48, 55, 48, 56, 48, 57, 49, 48, 49, 49, 49, 50, 49, 51, 49, 52, 49, 53, 49, 54, 49, 55, 49, 56, 49, 57, 50, 48, 50, 49, 50, 50, 50, 51, 50, 52, 50, 53, 50, 54, 50, 55, 50, 56, 50, 57, 51, 48, 51, 49, 51, 50, 51, 51, 51, 52, 51, 53, 51, 54, 51, 55, 51, 56, 51, 57, 52, 48, 52, 49, 52, 50, 52, 51, 52, 52, 52, 53, 52, 54, 52, 55, 52, 56, 52, 57, 53, 48, 53, 49, 53, 50, 53, 51, 53, 52, 53, 53, 53, 54, 53, 55, 53, 56, 53, 57, 54, 48, 54, 49, 54, 50, 54, 51, 54, 52, 54, 53, 54, 54, 54, 55, 54, 56, 54, 57, 55, 48, 55, 49, 55, 50, 55, 51, 55, 52, 55, 53, 55, 54, 55, 55, 55, 56, 55, 57, 56, 48, 56, 49, 56, 50, 56, 51, 56, 52, 56, 53, 56, 54, 56, 55, 56, 56, 56, 57, 57, 48, 57, 49, 57, 50, 57, 51, 57, 52, 57, 53, 57, 54, 57, 55, 57, 56, 57, 57]) v39 fun v40 =>
pIdxStr (.str [48, 48, 48, 49, 48, 50, 48, 51, 48, 52, 48, 53, 48, 54, 48, 55, 48, 56, 48, 57, 49, 48, 49, 49, 49, 50, 49, 51, 49, 52, 49, 53, 49, 54, 49, 55, 49, 56, 49, 57, 50, 48, 50, 49, 50, 50, 50, 51, 50, 52, 50, 53, 50, 54, 50, 55, 50, 56, 50, 57, 51, 48, 51, 49, 51, 50, 51, 51, 51, 52, 51, 53, 51, 54, 51, 55, 51, 56, 51, 57, 52, 48, 52, 49, 52, 50, 52, 51, 52, 52, 52, 53, 52, 54, 52, 55, 52, 56, 52, 57, 53, 48, 53, 49, 53, 50, 53, 51, 53, 52, 53, 53, 53, 54, 53, 55, 53, 56, 53, 57, 54, 48, 54, 49, 54, 50, 54, 51, 54, 52, 54, 53, 54, 54, 54, 55, 54, 56, 54, 57, 55, 48, 55, 49, 55, 50, 55, 51, 55, 52, 55, 53, 55, 54, 55, 55, 55, 56, 55, 57, 56, 48, 56, 49, 56, 50, 56, 51, 56, 52, 56, 53, 56, 54, 56, 55, 56, 56, 56, 57, 57, 48, 57, 49, 57, 50, 57, 51, 57, 52, 57, 53, 57, 54, 57, 55, 57, 56, 57, 57]) v18 fun v41 =>
pIdxS s1.2.2.1 v37 1 fun v42 =>
pStore h36 v42 v40 1 fun h43 =>
pIdxS s1.2.2.1 v38 1 fun v44 =>
pStore h43 v44 v41 1 fun h45 =>
pInt .sub s1.1 (.int .i64 (.ofNat 7)) fun v46 =>
pInt .sub s1.1 (.int .i64 (.ofNat 8)) fun v47 =>
pInt .add v16 (.int .u32 (.ofNat 1)) fun v48 =>
pIdxStr (.str [48, 48, 48, 49, 48, 50, 48, 51, 48, 52, 48, 53, 48, 54, 48, 55, 48, 56, 48, 57, 49, 48, 49, 49, 49, 50, 49, 51, 49, 52, 49, 53, 49, 54, 49, 55, 49, 56, 49, 57, 50, 48, 50, 49, 50, 50, 50, 51, 50, 52, 50, 53, 50, 54, 50, 55, 50, 56, 50, 57, 51, 48, 51, 49, 51, 50, 51, 51, 51, 52, 51, 53, 51, 54, 51, 55, 51, 56, 51, 57, 52, 48, 52, 49, 52, 50, 52, 51, 52, 52, 52, 53, 52, 54, 52, 55, 52, 56, 52, 57, 53, 48, 53, 49, 53, 50, 53, 51, 53, 52, 53, 53, 53, 54, 53, 55, 53, 56, 53, 57, 54, 48, 54, 49, 54, 50, 54, 51, 54, 52, 54, 53, 54, 54, 54, 55, 54, 56, 54, 57, 55, 48, 55, 49, 55, 50, 55, 51, 55, 52, 55, 53, 55, 54, 55, 55, 55, 56, 55, 57, 56, 48, 56, 49, 56, 50, 56, 51, 56, 52, 56, 53, 56, 54, 56, 55, 56, 56, 56, 57, 57, 48, 57, 49, 57, 50, 57, 51, 57, 52, 57, 53, 57, 54, 57, 55, 57, 56, 57, 57]) v48 fun v49 =>
pIdxStr (.str [48, 48, 48, 49, 48, 50, 48, 51, 48, 52, 48, 53, 48, 54, 48, 55, 48, 56, 48, 57, 49, 48, 49, 49, 49, 50, 49, 51, 49, 52, 49, 53, 49, 54, 49, 55, 49, 56, 49, 57, 50, 48, 50, 49, 50, 50, 50, 51, 50, 52, 50, 53, 50, 54, 50, 55, 50, 56, 50, 57, 51, 48, 51, 49, 51, 50, 51, 51, 51, 52, 51, 53, 51, 54, 51, 55, 51, 56, 51, 57, 52, 48, 52, 49, 52, 50, 52, 51, 52, 52, 52, 53, 52, 54, 52, 55, 52, 56, 52, 57, 53, 48, 53, 49, 53, 50, 53, 51, 53, 52, 53, 53, 53, 54, 53, 55, 53, 56, 53, 57, 54, 48, 54, 49, 54, 50, 54, 51, 54, 52, 54, 53, 54, 54, 54, 55, 54, 56, 54, 57, 55, 48, 55, 49, 55, 50, 55, 51, 55, 52, 55, 53, 55, 54, 55, 55, 55, 56, 55, 57, 56, 48, 56, 49, 56, 50, 56, 51, 56, 52, 56, 53, 56, 54, 56, 55, 56, 56, 56, 57, 57, 48, 57, 49, 57, 50, 57, 51, 57, 52, 57, 53, 57, 54, 57, 55, 57, 56, 57, 57]) v16 fun v50 =>
pIdxS s1.2.2.1 v46 1 fun v51 =>
pStore h45 v51 v49 1 fun h52 =>
pIdxS s1.2.2.1 v47 1 fun v53 =>
pStore h52 v53 v50 1 fun h54 =>
pInt .sub s1.1 (.int .i64 (.ofNat 8)) fun v55 =>
i4 (v55, v8, s1.2.2.1, ()) h54 d3) (
pConvI .u32 s1.2.1 fun v56 =>
joinC (α := AV × AV × AV × Unit → AH → List Nat → R) (fun s57 h58 d59 =>
joinC (α := AV × AV × AV × Unit → AH → List Nat → R) (fun s61 h62 d63 =>
pInt .gtr s61.2.1 (.int .i64 (.ofNat 0)) fun v65 =>
pCond v65 (
pInt .add (.int .u32 (.ofNat 48)) s61.1 fun v66 =>
pConvI .u8 v66 fun v67 =>
pIdxS s61.2.2.1 (.int .i64 (.ofNat 0)) 1 fun v68 =>
pStore h62 v68 v67 1 fun h69 =>
pLeave d63 h69 fun h70 =>
some ((.tup []), h70)) (
pLeave d63 h62 fun h71 =>
some ((.tup []), h71))) fun j64 =>
pInt .geq s57.2.1 (.int .i64 (.ofNat 2)) fun v72 =>
pCond v72 (
pInt .rem s57.1 (.int .u32 (.ofNat 100)) fun v73 =>
pInt .mul v73 (.int .u32 (.ofNat 2)) fun v74 =>
pInt .quo s57.1 (.int .u32 (.ofNat 100)) fun v75 =>
pInt .sub s57.2.1 (.int .i64 (.ofNat 1)) fun v76 =>
pInt .sub s57.2.1 (.int .i64 (.ofNat 2)) fun v77 =>
pInt .add v74 (.int .u32 (.ofNat 1)) fun v78 =>
pIdxStr (.str [48, 48, 48, 49, 48, 50, 48, 51, 48, 52, 48, 53, 48, 54, 48, 55, 48, 56, 48, 57, 49, 48, 49, 49, 49, 50, 49, 51, 49, 52, 49, 53, 49, 54, 49, 55, 49, 56, 49, 57, 50, 48, 50, 49, 50, 50, 50, 51, 50, 52, 50, 53, 50, 54, 50, 55, 50, 56, 50, 57, 51, 48, 51, 49, 51, 50, 51, 51, 51, 52, 51, 53, 51, 54, 51, 55, 51, 56, 51, 57, 52, 48, 52, 49, 52, 50, 52, 51, 52, 52, 52, 53, 52, 54, 52, 55, 52, 56, 52, 57, 53, 48, 53, 49, 53, 50, 53, 51, 53, 52, 53, 53, 53, 54, 53, 55, 53, 56, 53, 57, 54, 48, 54, 49, 54, 50, 54, 51, 54, 52, 54, 53, 54, 54, 54, 55, 54, 56, 54, 57, 55, 48, 55, 49, 55, 50, 55, 51, 55, 52, 55, 53, 55, 54, 55, 55, 55, 56, 55, 57, 56, 48, 56, 49, 56, 50, 56, 51, 56, 52, 56, 53, 56, 54, 56, 55, 56, 56, 56, 57, 57, 48, 57, 49, 57, 50, 57, 51, 57, 52, 57, 53, 57, 54, 57, 55, 57, 56, 57, 57]) v78 fun v79 =>
pIdxStr (.str [48, 48, 48, 49, 48, 50, 48, 51, 48, 52, 48, 53, 48, 54, 48, 55, 48, 56, 48, 57, 49, 48, 49, 49, 49, 50, 49, 51, 49, 52, 49, 53, 49, 54, 49, 55, 49, 56, 49, 57, 50, 48, 50, 49, 50, 50, 50, 51, 50, 52, 50, 53, 50, 54, 50, 55, 50, 56, 50, 57, 51, 48, 51, 49, 51, 50, 51, 51, 51, 52, 51, 53, 51, 54, 51, 55, 51, 56, 51, 57, 52, 48, 52, 49, 52, 50, 52, 51, 52, 52, 52, 53, 52, 54, 52, 55, 52, 56, 52, 57, 53, 48, 53, 49, 53, 50, 53, 51, 53, 52, 53, 53, 53, 54, 53, 55, 53, 56, 53, 57, 54, 48, 54, 49, 54, 50, 54, 51, 54, 52, 54, 53, 54, 54, 54, 55, 54, 56, 54, 57, 55, 48, 55, 49, 55, 50, 55, 51, 55, 52, 55, 53, 55, 54, 55, 55, 55, 56, 55, 57, 56, 48, 56, 49, 56, 50, 56, 51, 56, 52, 56, 53, 56, 54, 56, 55, 56, 56, 56, 57, 57, 48, 57, 49, 57, 50, 57, 51, 57, 52, 57, 53, 57, 54, 57, 55, 57, 56, 57, 57]) v74 fun v80 =>
pIdxS s57.2.2.1 v76 1 fun v81 =>
pStore h58 v81 v79 1 fun h82 =>
pIdxS s57.2.2.1 v77 1 fun v83 =>
pStore h82 v83 v80 1 fun h84 =>
pInt .sub s57.2.1 (.int .i64 (.ofNat 2)) fun v85 =>
j64 (v75, v85, s57.2.2.1, ()) h84 d59) (
j64 (s57.1, s57.2.1, s57.2.2.1, ()) h58 d59)) fun j60 =>
pInt .geq s1.1 (.int .i64 (.ofNat 4)) fun v86 =>
pCond v86 (
pInt .rem v56 (.int .u32 (.ofNat 10000)) fun v87 =>
pInt .quo v56 (.int .u32 (.ofNat 10000)) fun v88 =>
pInt .quo v87 (.int .u32 (.ofNat 100)) fun v89 =>
pInt .mul v89 (.int .u32 (.ofNat 2)) fun v90 =>
pInt .rem v87 (.int .u32 (.ofNat 100)) fun v91 =>
pInt .mul v91 (.int .u32 (.ofNat 2)) fun v92 =>
pInt .sub s1.1 (.int .i64 (.ofNat 1)) fun v93 =>
pInt .sub s1.1 (.int .i64 (.ofNat 2)) fun v94 =>
pInt .add v92 (.int .u32 (.ofNat 1)) fun v95 =>
pIdxStr (.str [48, 48, 48, 49, 48, 50, 48, 51, 48, 52, 48, 53, 48, 54, 48, 55, 48, 56, 48, 57, 49, 48, 49, 49, 49, 50, 49, 51, 49, 52, 49, 53, 49, 54, 49, 55, 49, 56, 49, 57, 50, 48, 50, 49, 50, 50, 50, 51, 50, 52, 50, 53, 50, 54, 50, 55, 50, 56, 50, 57, 51, 48, 51, 49, 51, 50, 51, 51, 51, 52, 51, 53, 51, 54, 51, 55, 51, 56, 51, 57, 52, 48, 52, 49, 52, 50, 52, 51, 52, 52, 52, 53, 52, 54, 52, 55, 52, 56, 52, 57, 53, 48, 53, 49, 53, 50, 53, 51, 53, 52, 53, 53, 53, 54, 53, 55, 53, 56, 53, 57, 54, 48, 54, 49, 54, 50, 54, 51, 54, 52, 54, 53, 54, 54, 54, 55, 54, 56, 54, 57, 55, 48, 55, 49, 55, 50, 55, 51, 55, 52, 55, 53, 55, 54, 55, 55, 55, 56, 55, 57, 56, 48, 56, 49, 56, 50, 56, 51, 56, 52, 56, 53, 56, 54, 56, 55, 56, 56, 56, 57, 57, 48, 57, 49, 57, 50, 57, 51, 57, 52, 57, 53, 57, 54, 57, 55, 57, 56, 57, 57]) v95 fun v96 =>
pIdxStr (.str [48, 48, 48, 49, 48, 50, 48, 51, 48, 52, 48, 53, 48, 54, 48, 55, 48, 56, 48, 57, 49, 48, 49, 49, 49, 50, 49, 51, 49, 52, 49, 53, 49, 54, 49, 55, 49, 56, 49, 57, 50, 48, 50, 49, 50, 50, 50, 51, 50, 52, 50, 53, 50, 54, 50, 55, 50, 56, 50, 57, 51, 48, 51, 49, 51, 50, 51, 51, 51, 52, 51, 53, 51, 54, 51, 55, 51, 56, 51, 57, 52, 48, 52, 49, 52, 50, 52, 51, 52, 52, 52, 53, 52, 54, 52, 55, 52, 56, 52, 57, 53, 48, 53, 49, 53, 50, 53, 51, 53, 52, 53, 53, 53, 54, 53, 55, 53, 56, 53, 57, 54, 48, 54, 49, 54, 50, 54, 51, 54, 52, 54, 53, 54, 54, 54, 55, 54, 56, 54, 57, 55, 48, 55, 49, 55, 50, 55, 51, 55, 52, 55, 53, 55, 54, 55, 55, 55, 56, 55, 57, 56, 48, 56, 49, 56, 50, 56, 51, 56, 52, 56, 53, 56, 54, 56, 55, 56, 56, 56, 57, 57, 48, 57, 49, 57, 50, 57, 51, 57, 52, 57, 53, 57, 54, 57, 55, 57, 56, 57, 57]) v92 fun v97 =>
pIdxS s1.2.2.1 v93 1 fun v98 =>
pStore h2 v98 v96 1 fun h99 =>
pIdxS s1.2.2.1 v94 1 fun v100 =>
pStore h99 v100 v97 1 fun h101 =>
pInt .sub s1.1 (.int .i64 (.ofNat 3)) fun v102 =>
pInt .sub s1.1 (.int .i64 (.ofNat 4)) fun v103 =>
pInt .add v90 (.int .u32 (.ofNat 1)) fun v104 =>
pIdxStr (.str [48, 48, 48, 49, 48, 50, 48, 51, 48, 52, 48, 53, 48, 54, 48, 55, 48, 56, 48, 57, 49, 48, 49, 49, 49, 50, 49, 51, 49, 52, 49, 53, 49, 54, 49, 55, 49, 56, 49, 57, 50, 48, 50, 49, 50, 50, 50, 51, 50, 52, 50, 53, 50, 54, 50, 55, 50, 56, 50, 57, 51, 48, 51, 49, 51, 50, 51, 51, 51, 52, 51, 53, 51, 54, 51, 55, 51, 56, 51, 57, 52, 48, 52, 49, 52, 50, 52, 51, 52, 52, 52, 53, 52, 54, 52, 55, 52, 56, 52, 57, 53, 48, 53, 49, 53, 50, 53, 51, 53, 52, 53, 53, 53, 54, 53, 55, 53, 56, 53, 57, 54, 48, 54, 49, 54, 50, 54, 51, 54, 52, 54, 53, 54, 54, 54, 55, 54, 56, 54, 57, 55, 48, 55, 49, 55, 50, 55, 51, 55, 52, 55, 53, 55, 54, 55, 55, 55, 56, 55, 57, 56, 48, 56, 49, 56, 50, 56, 51, 56, 52, 56, 53, 56, 54, 56, 55, 56, 56, 56, 57, 57, 48, 57, 49, 57, 50, 57, 51, 57, 52, 57, 53, 57, 54, 57, 55, 57, 56, 57, 57]) v104 fun v105 =>
pIdxStr (.str [48, 48, 48, 49, 48, 50, 48, 51, 48, 52, 48, 53, 48, 54, 48, 55, 48, 56, 48, 57, 49, 48, 49, 49, 49, 50, 49, 51, 49, 52, 49, 53, 49, 54, 49, 55, 49, 56, 49, 57, 50, 48, 50, 49, 50, 50, 50, 51, 50, 52, 50, 53, 50, 54, 50, 55, 50, 56, 50, 57, 51, 48, 51, 49, 51, 50, 51, 51, 51, 52, 51, 53, 51, 54, 51, 55, 51, 56, 51, 57, 52, 48, 52, 49, 52, 50, 52, 51, 52, 52, 52, 53, 52, 54, 52, 55, 52, 56, 52, 57, 53, 48, 53, 49, 53, 50, 53, 51, 53, 52, 53, 53, 53, 54, 53, 55, 53, 56, 53, 57, 54, 48, 54, 49, 54, 50, 54, 51, 54, 52, 54, 53, 54, 54, 54, 55, 54, 56, 54, 57, 55, 48, 55, 49, 55, 50, 55, 51, 55, 52, 55, 53, 55, 54, 55, 55, 55, 56, 55, 57, 56, 48, 56, 49, 56, 50, 56, 51, 56, 52, 56, 53, 56, 54, 56, 55, 56, 56, 56, 57, 57, 48, 57, 49, 57, 50, 57, 51, 57, 52, 57, 53, 57, 54, 57, 55, 57, 56, 57, 57]) v90 fun v106 =>
pIdxS s1.2.2.1 v102 1 fun v107 =>
pStore h101 v107 v105 1 fun h108 =>
pIdxS s1.2.2.1 v103 1 fun v109 =>
pStore h108 v109 v106 1 fun h110 =>
pInt .sub s1.1 (.int .i64 (.ofNat 4)) fun v111 =>
j60 (v88, v111, s1.2.2.1, ()) h110 d3) (
j60 (v56, s1.1, s1.2.2.1, ()) h2 d3))) (v0, a1, a0, ()) h []
theorem S248_eq (c : CV) (a0 a1 : AV) (h : AH) : enterK Tryz.prog NN P248 c 248 [a0, a1] h = S248 c a0 a1 h := by kernel_rfl
def W248 (c : CV) (l : List AV) (h : AH) : R := match l with | [a0, a1] => S248 c a0 a1 h | _ => none
theorem W248_ok : WOk Tryz.prog 248 W248 := by
  intro c l h r e
  unfold W248 at e
  split at e
  · exact ⟨P248, by rw [S248_eq]; exact e⟩
  · cases e
/- internal/strconv.formatBits -/
def P249 : Pl := (.n none .z (.n (some [11, 10, 4, 3, 2, 1, 0]) (.n none (.r [[23, 21, 11, 10, 4, 3, 2, 1, 0], [27, 25, 11, 10, 4, 3, 2, 1, 0]]) .z) (.n none .z (.n none .z (.n (some [13, 12, 11, 10, 4, 3, 2, 1, 0]) .z (.n (some [13, 12, 11, 10, 4, 3, 0]) (.n none .z (.n none (.n none .z (.n none .z (.n none .z (.n none (.n none (.n (some [16, 15, 14, 13, 12, 11, 10, 4, 3, 1, 0]) .z .z) .z) .z)))) (.n none .z (.n none (.n none (.n (some [17, 13, 12, 11, 10, 4, 3, 1, 0]) .z .z) .z) .z)))) (.n (some [13, 12, 11, 10, 4, 0]) .z .z)))))))
def S249 (c : CV) (a0 a1 a2 a3 a4 : AV) (h : AH) : R :=
joinC (α := AV × AV × AV × AV × AV × AV × AV × Unit → AH → List Nat → R) (fun s0 h1 d2 =>
pBox h1 340 (.agg [(.int .u8 (.ofNat 0)), (.int .u8 (.ofNat 0)), (.int .u8 (.ofNat 0)), (.int .u8 (.ofNat 0)), (.int .u8 (.ofNat 0)), (.int .u8 (.ofNat 0)), (.int .u8 (.ofNat 0)), (.int .u8 (.ofNat 0)), (.int .u8 (.ofNat 0)), (.int .u8 (.ofNat 0)), (.int .u8 (.ofNat 0)), (.int .u8 (.ofNat 0)), (.int .u8 (.ofNat 0)), (.int .u8 (.ofNat 0)), (.int .u8 (.ofNat 0)), (.int .u8 (.ofNat 0)), (.int .u8 (.ofNat 0)), (.int .u8 (.ofNat 0)), (.int .u8 (.ofNat 0)), (.int .u8 (.ofNat 0)), (.int .u8 (.ofNat 0)), (.int .u8 (.ofNat 0)), (.int .u8 (.ofNat 0)), (.int .u8 (.ofNat 0)), (.int .u8 (.ofNat 0)), (.int .u8 (.ofNat 0)), (.int .u8 (.ofNat 0)), (.int .u8 (.ofNat 0)), (.int .u8 (.ofNat 0)), (.int .u8 (.ofNat 0)), (.int .u8 (.ofNat 0)), (.int .u8 (.ofNat 0)), (.int .u8 (.ofNat 0)), (.int .u8 (.ofNat 0)), (.int .u8 (.ofNat 0)), (.int .u8 (.ofNat 0)), (.int .u8 (.ofNat 0)), (.int .u8 (.ofNat 0)), (.int .u8 (.ofNat 0)), (.int .u8 (.ofNat 0)), (.int .u8 (.ofNat 0)), (.int .u8 (.ofNat 0)), (.int .u8 (.ofNat 0)), (.int .u8 (.ofNat 0)), (.int .u8 (.ofNat 0)), (.int .u8 (.ofNat 0)), (.int .u8 (.ofNat 0)), (.int .u8 (.ofNat 0)), (.int .u8 (.ofNat 0)), (.int .u8 (.ofNat 0)), (.int .u8 (.ofNat 0)), (.int .u8 (.ofNat 0)), (.int .u8 (.ofNat 0)), (.int .u8 (.ofNat 0)), (.int .u8 (.ofNat 0)), (.int .u8 (.ofNat 0)), (.int .u8 (.ofNat 0)), (.int .u8 (.ofNat 0)), (.int .u8 (.ofNat 0)), (.int .u8 (.ofNat 0)), (.int .u8 (.ofNat 0)), (.int .u8 (.ofNat 0)), (.int .u8 (.ofNat 0)), (.int .u8 (.ofNat 0)), (.int .u8 (.ofNat 0))]) fun v4 h5 =>
joinC (α := AV × AV × AV × AV × AV × AV × AV × AV × AV × Unit → AH → List Nat → R) (fun s6 h7 d8 =>
joinC (α := AV × AV × AV × AV × AV × AV × AV × Unit → AH → List Nat → R) (fun s10 h11 d12 =>
joinC (α := AV × AV × AV × AV × AV × AV × Unit → AH → List Nat → R) (fun s14 h15 d16 =>
pCond s14.2.2.2.2.1 (
pSliceP 65 1 s14.2.1 (some s14.1) none fun v18 =>
pAppend h15 5 1 s14.2.2.2.2.2.1 v18 fun v19 h20 =>
pLeave d16 h20 fun h21 =>
some ((.tup [v19, s14.2.2.1]), h21)) (
pSliceP 65 1 s14.2.1 (some s14.1) none fun v22 =>
pB2S h15 v22 fun v23 =>
pLeave d16 h15 fun h24 =>
some ((.tup [s14.2.2.2.1, v23]), h24))) fun j17 =>
pCond s10.2.2.2.2.2.1 (
pInt .sub s10.1 (.int .i64 (.ofNat 1)) fun v25 =>
pIdxP s10.2.1 v25 65 1 fun v26 =>
pStore h11 v26 (.int .u8 (.ofNat 45)) 1 fun h27 =>
j17 (v25, s10.2.1, s10.2.2.1, s10.2.2.2.1, s10.2.2.2.2.1, s10.2.2.2.2.2.2.1, ()) h27 d12) (
j17 (s10.1, s10.2.1, s10.2.2.1, s10.2.2.2.1, s10.2.2.2.2.1, s10.2.2.2.2.2.2.1, ()) h11 d12)) fun j13 =>
pCall c (.fn 309 [] []) [s6.2.2.2.2.2.2.1] h7 fun v28 h29 =>
pCond v28 (
pConvI .u64 s6.2.2.2.2.2.2.1 fun v30 =>
pCall c (.fn 310 [] []) [v30] h29 fun v31 h32 =>
pConvI .u64 v31 fun v33 =>
pConvI .u64 s6.2.2.2.2.2.2.1 fun v34 =>
pConvI .u64 s6.2.2.2.2.2.2.1 fun v35 =>
pInt .sub v35 (.int .u64 (.ofNat 1)) fun v36 =>
loopC (σ := AV × AV × AV × AV × AV × AV × AV × AV × AV × AV × AV × Unit) NN (fun i40 s37 h38 d39 =>
pInt .geq s37.2.2.2.2.2.2.2.2.2.1 s37.2.1 fun v41 =>
pCond v41 (
pInt .sub s37.2.2.2.1 (.int .i64 (.ofNat 1)) fun v42 =>
pInt .and s37.2.2.2.2.2.2.2.2.2.1 s37.1 fun v43 =>
pIdxStr (.str [48, 49, 50, 51, 52, 53, 54, 55, 56, 57, 97, 98, 99, 100, 101, 102, 103, 104, 105, 106, 107, 108, 109, 110, 111, 112, 113, 114, 115, 116, 117, 118, 119, 120, 121, 122]) v43 fun v44 =>
pIdxP s37.2.2.2.2.1 v42 65 1 fun v45 =>
pStore h38 v45 v44 1 fun h46 =>
pShift .shr s37.2.2.2.2.2.2.2.2.2.1 s37.2.2.1 fun v47 =>
i40 (s37.1, s37.2.1, s37.2.2.1, v42, s37.2.2.2.2.1, s37.2.2.2.2.2.1, s37.2.2.2.2.2.2.1, s37.2.2.2.2.2.2.2.1, s37.2.2.2.2.2.2.2.2.1, v47, s37.2.2.2.2.2.2.2.2.2.2.1, ()) h46 d39) (
pInt .sub s37.2.2.2.1 (.int .i64 (.ofNat 1)) fun v48 =>
pIdxStr (.str [48, 49, 50, 51, 52, 53, 54, 55, 56, 57, 97, 98, 99, 100, 101, 102, 103, 104, 105, 106, 107, 108, 109, 110, 111, 112, 113, 114, 115, 116, 117, 118, 119, 120, 121, 122]) s37.2.2.2.2.2.2.2.2.2.1 fun v49 =>
pIdxP s37.2.2.2.2.1 v48 65 1 fun v50 =>
pStore h38 v50 v49 1 fun h51 =>
j13 (v48, s37.2.2.2.2.1, s37.2.2.2.2.2.1, s37.2.2.2.2.2.2.1, s37.2.2.2.2.2.2.2.1, s37.2.2.2.2.2.2.2.2.1, s37.2.2.2.2.2.2.2.2.2.2.1, ()) h51 d39)) (v36, v34, v33, s6.1, s6.2.1, s6.2.2.1, s6.2.2.2.1, s6.2.2.2.2.1, s6.2.2.2.2.2.1, s6.2.2.2.2.2.2.2.1, s6.2.2.2.2.2.2.2.2.1, ()) h32 d8) (
pConvI .u64 s6.2.2.2.2.2.2.1 fun v52 =>
loopC (σ := AV × AV × AV × AV × AV × AV × AV × AV × AV × Unit) NN (fun i56 s53 h54 d55 =>
pInt .geq s53.2.2.2.2.2.2.2.1 s53.1 fun v57 =>
pCond v57 (
pInt .sub s53.2.1 (.int .i64 (.ofNat 1)) fun v58 =>
pInt .quo s53.2.2.2.2.2.2.2.1 s53.1 fun v59 =>
pInt .mul v59 s53.1 fun v60 =>
pInt .sub s53.2.2.2.2.2.2.2.1 v60 fun v61 =>
pIdxStr (.str [48, 49, 50, 51, 52, 53, 54, 55, 56, 57, 97, 98, 99, 100, 101, 102, 103, 104, 105, 106, 107, 108, 109, 110, 111, 112, 113, 114, 115, 116, 117, 118, 119, 120, 121, 122]) v61 fun v62 =>
pIdxP s53.2.2.1 v58 65 1 fun v63 =>
pStore h54 v63 v62 1 fun h64 =>
i56 (s53.1, v58, s53.2.2.1, s53.2.2.2.1, s53.2.2.2.2.1, s53.2.2.2.2.2.1, s53.2.2.2.2.2.2.1, v59, s53.2.2.2.2.2.2.2.2.1, ()) h64 d55) (
pInt .sub s53.2.1 (.int .i64 (.ofNat 1)) fun v65 =>
pIdxStr (.str [48, 49, 50, 51, 52, 53, 54, 55, 56, 57, 97, 98, 99, 100, 101, 102, 103, 104, 105, 106, 107, 108, 109, 110, 111, 112, 113, 114, 115, 116, 117, 118, 119, 120, 121, 122]) s53.2.2.2.2.2.2.2.1 fun v66 =>
pIdxP s53.2.2.1 v65 65 1 fun v67 =>
pStore h54 v67 v66 1 fun h68 =>
j13 (v65, s53.2.2.1, s53.2.2.2.1, s53.2.2.2.2.1, s53.2.2.2.2.2.1, s53.2.2.2.2.2.2.1, s53.2.2.2.2.2.2.2.2.1, ()) h68 d55)) (v52, s6.1, s6.2.1, s6.2.2.1, s6.2.2.2.1, s6.2.2.2.2.1, s6.2.2.2.2.2.1, s6.2.2.2.2.2.2.2.1, s6.2.2.2.2.2.2.2.2.1, ()) h29 d8)) fun j9 =>
pCond s0.2.2.2.1 (
pUn .neg s0.2.2.2.2.2.1 fun v69 =>
j9 ((.int .i64 (.ofNat 65)), v4, s0.1, s0.2.1, s0.2.2.1, s0.2.2.2.1, s0.2.2.2.2.1, v69, s0.2.2.2.2.2.2.1, ()) h5 d2) (
j9 ((.int .i64 (.ofNat 65)), v4, s0.1, s0.2.1, s0.2.2.1, s0.2.2.2.1, s0.2.2.2.2.1, s0.2.2.2.2.2.1, s0.2.2.2.2.2.2.1, ()) h5 d2)) fun j3 =>
pInt .lss a2 (.int .i64 (.ofNat 2)) fun v70 =>
joinC (α := AV × AV × AV × AV × AV × AV × AV × AV × AV × Unit → AH → R) (fun s71 h72 =>
pPick s71.2.1 (.bool true) s71.1 fun v74 =>
joinC (α := AV × AV × AV × AV × AV × AV × AV × AV × AV × Unit → AH → R) (fun s75 h76 =>
pPick s75.2.1 (.bool true) s75.1 fun v78 =>
pCond v78 (
none /- op -/) (
j3 (s75.2.2.1, s75.2.2.2.1, s75.2.2.2.2.1, s75.2.2.2.2.2.1, s75.2.2.2.2.2.2.1, s75.2.2.2.2.2.2.2.1, s75.2.2.2.2.2.2.2.2.1, ()) h76 [])) fun j77 =>
pWant v74 false (
pInt .gtr s71.2.2.2.2.2.2.1 (.int .i64 (.ofNat 36)) fun v79 =>
j77 (v79, v74, s71.2.2.1, s71.2.2.2.1, s71.2.2.2.2.1, s71.2.2.2.2.2.1, s71.2.2.2.2.2.2.1, s71.2.2.2.2.2.2.2.1, s71.2.2.2.2.2.2.2.2.1, ()) h72) (
j77 (.undef, v74, s71.2.2.1, s71.2.2.2.1, s71.2.2.2.2.1, s71.2.2.2.2.2.1, s71.2.2.2.2.2.2.1, s71.2.2.2.2.2.2.2.1, s71.2.2.2.2.2.2.2.2.1, ()) h72)) fun j73 =>
pWant v70 false (
pInt .eql a2 (.int .i64 (.ofNat 10)) fun v80 =>
j73 (v80, v70, (.str []), .nils, a4, a3, a2, a1, a0, ()) h) (
j73 (.undef, v70, (.str []), .nils, a4, a3, a2, a1, a0, ()) h)
theorem S249_eq (c : CV) (a0 a1 a2 a3 a4 : AV) (h : AH) : enterK Tryz.prog NN P249 c 249 [a0, a1, a2, a3, a4] h = S249 c a0 a1 a2 a3 a4 h := by kernel_rfl
def W249 (c : CV) (l : List AV) (h : AH) : R := match l with | [a0, a1, a2, a3, a4] => S249 c a0 a1 a2 a3 a4 h | _ => none
theorem W249_ok : WOk Tryz.prog 249 W249 := by
  intro c l h r e
  unfold W249 at e
  split at e
  · exact ⟨P249, by rw [S249_eq]; exact e⟩
  · cases e
/- quietus/code.named -/
def P252 : Pl := (.n none .z (.n none (.n none (.r [[11, 7, 1, 0]]) .z) .z))
def S252 (_ : CV) (a0 a1 : AV) (h : AH) : R :=
pInt .lss a1 (.int .i64 (.ofNat 0)) fun v0 =>
joinC (α := AV × AV × AV × AV × Unit → AH → R) (fun s1 h2 =>
pPick s1.2.1 (.bool true) s1.1 fun v4 =>
pCond v4 (
some ((.str []), h2)) (
pIdxS s1.2.2.2.1 s1.2.2.1 1 fun v5 =>
pLoad1 h2 v5 fun v6 =>
some (v6, h2))) fun j3 =>
pWant v0 false (
pLenS a0 fun v7 =>
pInt .geq a1 v7 fun v8 =>
j3 (v8, v0, a1, a0, ()) h) (
j3 (.undef, v0, a1, a0, ()) h)
theorem S252_eq (c : CV) (a0 a1 : AV) (h : AH) : enterK Tryz.prog NN P252 c 252 [a0, a1] h = S252 c a0 a1 h := by kernel_rfl
def W252 (c : CV) (l : List AV) (h : AH) : R := match l with | [a0, a1] => S252 c a0 a1 h | _ => none
theorem W252_ok : WOk Tryz.prog 252 W252 := by
  intro c l h r e
  unfold W252 at e
  split at e
  · exact ⟨P252, by rw [S252_eq]; exact e⟩
  · cases e
/- quietus/code.names -/
def P253 : Pl := .z
def S253 (_ : CV) (h : AH) : R :=
pBuildS h 9 [(.str [])] 24 [(0, 1, (.str [])), (1, 1, (.str [115, 101, 116])), (2, 1, (.str [109, 111, 118, 101])), (3, 1, (.str [97, 100, 100])), (4, 1, (.str [115, 117, 98])), (5, 1, (.str [109, 117, 108])), (6, 1, (.str [108, 101, 115, 115])), (7, 1, (.str [101, 113, 117, 97, 108])), (8, 1, (.str [108, 111, 97, 100])), (9, 1, (.str [115, 116, 111, 114, 101])), (10, 1, (.str [97, 108, 108, 111, 99])), (11, 1, (.str [102, 114, 101, 101])), (12, 1, (.str [106, 117, 109, 112])), (13, 1, (.str [122, 101, 114, 111])), (14, 1, (.str [111, 112, 101, 110])), (15, 1, (.str [99, 108, 111, 115, 101])), (16, 1, (.str [117, 110, 100, 111])), (17, 1, (.str [101, 105, 116, 104, 101, 114])), (18, 1, (.str [111, 114])), (19, 1, (.str [100, 111, 110, 101])), (20, 1, (.str [114, 101, 116, 114, 121])), (21, 1, (.str [101, 109, 105, 116])), (22, 1, (.str [102, 97, 105, 108])), (23, 1, (.str [99, 97, 108, 108]))] fun v0 h1 =>
some (v0, h1)
theorem S253_eq (c : CV) (h : AH) : enterK Tryz.prog NN P253 c 253 [] h = S253 c h := by kernel_rfl
def W253 (c : CV) (l : List AV) (h : AH) : R := match l with | [] => S253 c h | _ => none
theorem W253_ok : WOk Tryz.prog 253 W253 := by
  intro c l h r e
  unfold W253 at e
  split at e
  · exact ⟨P253, by rw [S253_eq]; exact e⟩
  · cases e
/- (*quietus/interp.Interp).truth$1 -/
def P254 : Pl := (.n none .z (.n none .z (.n none .z (.n none (.r [[]]) .z))))
def S254 (c : CV) (a0 a1 a2 a3 : AV) (h : AH) : R :=
pInt .neq a1 (.int .i64 (.ofNat 0)) fun v0 =>
pCond v0 (
some (a1, h)) (
pLoad1 h a2 fun v1 =>
pNil v1 fun v2 =>
pFieldA v2 14 fun v3 =>
pLoad1 h v3 fun v4 =>
pCall c (.fn 255 [] []) [v4, a0] h fun v5 h6 =>
pUn .not v5 fun v7 =>
pCond v7 (
some ((.int .i64 (.ofNat 5)), h6)) (
joinC (α := Unit → AH → R) (fun _ h9 =>
some ((.int .i64 (.ofNat 0)), h9)) fun j10 =>
pLoad1 h6 a2 fun v11 =>
pFieldA a3 3 fun v12 =>
pLoad1 h6 v12 fun v13 =>
pCall c (.fn 185 [] []) [a0] h6 fun v14 h15 =>
pNil v11 fun v16 =>
pFieldA v16 6 fun v17 =>
pIdxP v17 v13 8 1 fun v18 =>
pStore h15 v18 v14 1 fun h19 =>
pChk v12 none v13 h6 h15 h6.nx <|
pChk a2 none v11 h6 h15 h6.nx <|
j10 (()) h19))
theorem S254_eq (c : CV) (a0 a1 a2 a3 : AV) (h : AH) : enterK Tryz.prog NN P254 c 254 [a0, a1, a2, a3] h = S254 c a0 a1 a2 a3 h := by kernel_rfl
def W254 (c : CV) (l : List AV) (h : AH) : R := match l with | [a0, a1, a2, a3] => S254 c a0 a1 a2 a3 h | _ => none
theorem W254_ok : WOk Tryz.prog 254 W254 := by
  intro c l h r e
  unfold W254 at e
  split at e
  · exact ⟨P254, by rw [S254_eq]; exact e⟩
  · cases e
/- (*quietus/slate.Slate).AddTruth -/
def P255 : Pl := .z
def S255 (c : CV) (a0 a1 : AV) (h : AH) : R :=
pCall c (.fn 206 [] []) [a0, (.iface 4 a1)] h fun v0 h1 =>
some (v0, h1)
theorem S255_eq (c : CV) (a0 a1 : AV) (h : AH) : enterK Tryz.prog NN P255 c 255 [a0, a1] h = S255 c a0 a1 h := by kernel_rfl
def W255 (c : CV) (l : List AV) (h : AH) : R := match l with | [a0, a1] => S255 c a0 a1 h | _ => none
theorem W255_ok : WOk Tryz.prog 255 W255 := by
  intro c l h r e
  unfold W255 at e
  split at e
  · exact ⟨P255, by rw [S255_eq]; exact e⟩
  · cases e
/- quietus/draft.Do -/
def P256 : Pl := (.n none .z (.n none (.n none (.r [[17, 15, 2, 0]]) .z) (.n none .z (.n none .z (.n none .z (.n none .z (.n none .z (.n none (.n none .z (.n none (.n (some [67, 66, 65, 0]) .z .z) .z)) .z))))))))
def S256 (c : CV) (a0 a1 a2 : AV) (h : AH) : R :=
pInt .lss a1 (.int .i64 (.ofNat 6)) fun v0 =>
joinC (α := AV × AV × AV × AV × Unit → AH → R) (fun s1 h2 =>
pPick s1.2.1 (.bool true) s1.1 fun v4 =>
pCond v4 (
some ((.int .i64 (.ofNat 2)), h2)) (
pCall c (.fn 311 [] []) [s1.2.2.2.1] h2 fun v5 h6 =>
pBuild [.nilp, (.int .i64 (.ofNat 0)), (.int .i64 (.ofNat 0))] [(0, 1, v5)] fun v7 =>
pBox h6 343 v7 fun v8 h9 =>
pCall c s1.2.2.1 [v8] h9 fun _ h11 =>
pNil v8 fun v12 =>
pFieldA v12 1 fun v13 =>
pLoad1 h11 v13 fun v14 =>
pInt .eql v14 (.int .i64 (.ofNat 11)) fun v15 =>
pCond v15 (
pNil v8 fun v16 =>
pFieldA v16 0 fun v17 =>
pLoad1 h11 v17 fun v18 =>
pCall c (.fn 108 [] []) [v18] h11 fun v19 h20 =>
pCall c (.fn 159 [] []) [s1.2.2.2.1, v19] h20 fun v21 h22 =>
pExtract v21 0 fun _ =>
pExtract v21 1 fun v24 =>
some (v24, h22)) (
pNil v8 fun v25 =>
pFieldA v25 1 fun v26 =>
pLoad1 h11 v26 fun v27 =>
pInt .neq v27 (.int .i64 (.ofNat 0)) fun v28 =>
pCond v28 (
pNil v8 fun v29 =>
pFieldA v29 1 fun v30 =>
pLoad1 h11 v30 fun v31 =>
some (v31, h11)) (
pNil v8 fun v32 =>
pFieldA v32 0 fun v33 =>
pLoad1 h11 v33 fun v34 =>
pCall c (.fn 110 [] []) [v34] h11 fun v35 h36 =>
pCall c (.fn 161 [] []) [s1.2.2.2.1, v35] h36 fun v37 h38 =>
pInt .neq v37 (.int .i64 (.ofNat 0)) fun v39 =>
pCond v39 (
some (v37, h38)) (
pNil v8 fun v40 =>
pFieldA v40 0 fun v41 =>
pLoad1 h38 v41 fun v42 =>
pCall c (.fn 118 [] []) [v42] h38 fun v43 h44 =>
pLenS v43 fun v45 =>
loopC (σ := AV × AV × AV × AV × Unit) NN (fun i49 s46 h47 d48 =>
pInt .lss s46.1 s46.2.1 fun v50 =>
pCond v50 (
pIdxS s46.2.2.1 s46.1 1 fun v51 =>
pLoad1 h47 v51 fun v52 =>
pCall c (.fn 292 [] []) [s46.2.2.2.1, v52] h47 fun _ h54 =>
pInt .add s46.1 (.int .i64 (.ofNat 1)) fun v55 =>
i49 (v55, s46.2.1, s46.2.2.1, s46.2.2.2.1, ()) h54 d48) (
pLeave d48 h47 fun h56 =>
some ((.int .i64 (.ofNat 0)), h56))) ((.int .i64 (.ofNat 0)), v45, v43, s1.2.2.2.1, ()) h44 []))))) fun j3 =>
pWant v0 false (
pInt .geq a1 (.int .i64 (.ofNat 14)) fun v57 =>
j3 (v57, v0, a2, a0, ()) h) (
j3 (.undef, v0, a2, a0, ()) h)
theorem S256_eq (c : CV) (a0 a1 a2 : AV) (h : AH) : enterK Tryz.prog NN P256 c 256 [a0, a1, a2] h = S256 c a0 a1 a2 h := by kernel_rfl
def W256 (c : CV) (l : List AV) (h : AH) : R := match l with | [a0, a1, a2] => S256 c a0 a1 a2 h | _ => none
theorem W256_ok : WOk Tryz.prog 256 W256 := by
  intro c l h r e
  unfold W256 at e
  split at e
  · exact ⟨P256, by rw [S256_eq]; exact e⟩
  · cases e
/- quietus/list.Add$1 -/
def P257 : Pl := (.n none .z (.n none (.n none (.r [[22, 18, 6, 5, 3, 2, 0]]) .z) .z))
def S257 (c : CV) (a0 a1 a2 a3 : AV) (h : AH) : R :=
pLoad1 h a1 fun v0 =>
pLoad1 h a2 fun v1 =>
pCall c (.fn 258 [] []) [a0, v0, v1] h fun v2 h3 =>
pExtract v2 0 fun v4 =>
pExtract v2 1 fun v5 =>
pCall c (.fn 259 [] []) [a0] h3 fun v6 h7 =>
pUn .not v6 fun v8 =>
joinC (α := AV × AV × AV × AV × AV × AV × AV × Unit → AH → R) (fun s9 h10 =>
pPick s9.2.1 (.bool true) s9.1 fun v12 =>
pCond v12 (
some ((.tup []), h10)) (
pCall c (.fn 261 [] []) [s9.2.2.2.2.2.2.1, (.int .i64 (.ofNat 2))] h10 fun v13 h14 =>
pInt .add v13 (.int .i64 (.ofNat 0)) fun v15 =>
pLoad1 h14 s9.2.2.2.2.2.1 fun v16 =>
pCall c (.fn 262 [] []) [s9.2.2.2.2.2.2.1, v15, v16] h14 fun _ h18 =>
pInt .add v13 (.int .i64 (.ofNat 1)) fun v19 =>
pCall c (.fn 263 [] []) [s9.2.2.2.2.2.2.1, v19, s9.2.2.1] h18 fun _ h21 =>
pCall c (.fn 263 [] []) [s9.2.2.2.2.2.2.1, s9.2.2.2.1, v13] h21 fun _ h23 =>
pStore h23 s9.2.2.2.2.1 (.bool true) 1 fun h24 =>
some ((.tup []), h24))) fun j11 =>
pWant v8 false (
pLoad1 h7 a2 fun v25 =>
pCall c (.fn 260 [] []) [a0, v5, v25] h7 fun v26 h27 =>
j11 (v26, v8, v5, v4, a3, a2, a0, ()) h27) (
j11 (.undef, v8, v5, v4, a3, a2, a0, ()) h7)
theorem S257_eq (c : CV) (a0 a1 a2 a3 : AV) (h : AH) : enterK Tryz.prog NN P257 c 257 [a0, a1, a2, a3] h = S257 c a0 a1 a2 a3 h := by kernel_rfl
def W257 (c : CV) (l : List AV) (h : AH) : R := match l with | [a0, a1, a2, a3] => S257 c a0 a1 a2 a3 h | _ => none
theorem W257_ok : WOk Tryz.prog 257 W257 := by
  intro c l h r e
  unfold W257 at e
  split at e
  · exact ⟨P257, by rw [S257_eq]; exact e⟩
  · cases e
/- quietus/list.seek -/
def P258 : Pl := (.n none .z (.n none .z (.n none (.n (some [7, 6]) (.n (some [7, 6, 2, 0]) (.n none .z (.n none (.n none .z (.n none (.n none (.r [[22, 16, 7, 6, 2, 0]]) .z) .z)) .z)) .z) .z) .z)))
def S258 (c : CV) (a0 a1 a2 : AV) (h : AH) : R :=
joinC (α := AV × AV × Unit → AH → List Nat → R) (fun s0 h1 d2 =>
pLeave d2 h1 fun h4 =>
some ((.tup [s0.2.1, s0.1]), h4)) fun j3 =>
loopC (σ := AV × AV × AV × AV × Unit) NN (fun i8 s5 h6 d7 =>
pCall c (.fn 312 [] []) [s5.2.2.2.1] h6 fun v9 h10 =>
pCond v9 (
pCall c (.fn 313 [] []) [s5.2.2.2.1, s5.2.1] h10 fun v11 h12 =>
pInt .eql v11 (.int .i64 (.ofNat 0)) fun v13 =>
joinC (α := AV × AV × AV × AV × AV × AV × Unit → AH → R) (fun s14 h15 =>
pPick s14.2.1 (.bool true) s14.1 fun v17 =>
pCond v17 (
j3 (s14.2.2.1, s14.2.2.2.1, ()) h15 d7) (
pInt .add s14.2.2.1 (.int .i64 (.ofNat 1)) fun v18 =>
i8 (s14.2.2.1, v18, s14.2.2.2.2.1, s14.2.2.2.2.2.1, ()) h15 d7)) fun j16 =>
pWant v13 false (
pInt .add v11 (.int .i64 (.ofNat 0)) fun v19 =>
pCall c (.fn 265 [] []) [s5.2.2.2.1, v19] h12 fun v20 h21 =>
pInt .geq v20 s5.2.2.1 fun v22 =>
j16 (v22, v13, v11, s5.2.1, s5.2.2.1, s5.2.2.2.1, ()) h21) (
j16 (.undef, v13, v11, s5.2.1, s5.2.2.1, s5.2.2.2.1, ()) h12)) (
j3 (s5.1, s5.2.1, ()) h10 d7)) ((.int .i64 (.ofNat 0)), a1, a2, a0, ()) h []
theorem S258_eq (c : CV) (a0 a1 a2 : AV) (h : AH) : enterK Tryz.prog NN P258 c 258 [a0, a1, a2] h = S258 c a0 a1 a2 h := by kernel_rfl
def W258 (c : CV) (l : List AV) (h : AH) : R := match l with | [a0, a1, a2] => S258 c a0 a1 a2 h | _ => none
theorem W258_ok : WOk Tryz.prog 258 W258 := by
  intro c l h r e
  unfold W258 at e
  split at e
  · exact ⟨P258, by rw [S258_eq]; exact e⟩
  · cases e
/- (*quietus/draft.Draft).OK -/
def P259 : Pl := .z
def S259 (_ : CV) (a0 : AV) (h : AH) : R :=
pNil a0 fun v0 =>
pFieldA v0 1 fun v1 =>
pLoad1 h v1 fun v2 =>
pInt .eql v2 (.int .i64 (.ofNat 0)) fun v3 =>
some (v3, h)
theorem S259_eq (c : CV) (a0 : AV) (h : AH) : enterK Tryz.prog NN P259 c 259 [a0] h = S259 c a0 h := by kernel_rfl
def W259 (c : CV) (l : List AV) (h : AH) : R := match l with | [a0] => S259 c a0 h | _ => none
theorem W259_ok : WOk Tryz.prog 259 W259 := by
  intro c l h r e
  unfold W259 at e
  split at e
  · exact ⟨P259, by rw [S259_eq]; exact e⟩
  · cases e
/- quietus/list.found -/
def P260 : Pl := (.n none .z (.n none (.r [[11, 9, 2, 1, 0], [19, 13]]) .z))
def S260 (c : CV) (a0 a1 a2 : AV) (h : AH) : R :=
pCall c (.fn 259 [] []) [a0] h fun v0 h1 =>
joinC (α := AV × AV × AV × AV × AV × Unit → AH → R) (fun s2 h3 =>
pPick s2.2.1 s2.1 (.bool false) fun v5 =>
joinC (α := AV × AV × Unit → AH → R) (fun s6 h7 =>
pPick s6.2.1 s6.1 (.bool false) fun v9 =>
some (v9, h7)) fun j8 =>
pWant v5 true (
pInt .add s2.2.2.2.1 (.int .i64 (.ofNat 0)) fun v10 =>
pCall c (.fn 265 [] []) [s2.2.2.2.2.1, v10] h3 fun v11 h12 =>
pInt .eql v11 s2.2.2.1 fun v13 =>
j8 (v13, v5, ()) h12) (
j8 (.undef, v5, ()) h3)) fun j4 =>
pWant v0 true (
pInt .neq a1 (.int .i64 (.ofNat 0)) fun v14 =>
j4 (v14, v0, a2, a1, a0, ()) h1) (
j4 (.undef, v0, a2, a1, a0, ()) h1)
theorem S260_eq (c : CV) (a0 a1 a2 : AV) (h : AH) : enterK Tryz.prog NN P260 c 260 [a0, a1, a2] h = S260 c a0 a1 a2 h := by kernel_rfl
def W260 (c : CV) (l : List AV) (h : AH) : R := match l with | [a0, a1, a2] => S260 c a0 a1 a2 h | _ => none
theorem W260_ok : WOk Tryz.prog 260 W260 := by
  intro c l h r e
  unfold W260 at e
  split at e
  · exact ⟨P260, by rw [S260_eq]; exact e⟩
  · cases e
/- (*quietus/draft.Draft).Alloc -/
def P261 : Pl := .z
def S261 (c : CV) (a0 a1 : AV) (h : AH) : R :=
pCall c (.fn 259 [] []) [a0] h fun v0 h1 =>
pUn .not v0 fun v2 =>
pCond v2 (
some ((.int .i64 (.ofNat 0)), h1)) (
pNil a0 fun v3 =>
pFieldA v3 0 fun v4 =>
pLoad1 h1 v4 fun v5 =>
pCall c (.fn 223 [] []) [v5, a1] h1 fun v6 h7 =>
pExtract v6 0 fun v8 =>
pExtract v6 1 fun v9 =>
pCall c (.fn 314 [] []) [a0, v9] h7 fun _ h11 =>
some (v8, h11))
theorem S261_eq (c : CV) (a0 a1 : AV) (h : AH) : enterK Tryz.prog NN P261 c 261 [a0, a1] h = S261 c a0 a1 h := by kernel_rfl
def W261 (c : CV) (l : List AV) (h : AH) : R := match l with | [a0, a1] => S261 c a0 a1 h | _ => none
theorem W261_ok : WOk Tryz.prog 261 W261 := by
  intro c l h r e
  unfold W261 at e
  split at e
  · exact ⟨P261, by rw [S261_eq]; exact e⟩
  · cases e
/- (*quietus/draft.Draft).Write -/
def P262 : Pl := .z
def S262 (c : CV) (a0 a1 a2 : AV) (h : AH) : R :=
pCall c (.fn 259 [] []) [a0] h fun v0 h1 =>
pCond v0 (
pNil a0 fun v2 =>
pFieldA v2 0 fun v3 =>
pLoad1 h1 v3 fun v4 =>
pCall c (.fn 222 [] []) [v4, a1, a2] h1 fun v5 h6 =>
pCall c (.fn 314 [] []) [a0, v5] h6 fun _ h8 =>
some ((.tup []), h8)) (
some ((.tup []), h1))
theorem S262_eq (c : CV) (a0 a1 a2 : AV) (h : AH) : enterK Tryz.prog NN P262 c 262 [a0, a1, a2] h = S262 c a0 a1 a2 h := by kernel_rfl
def W262 (c : CV) (l : List AV) (h : AH) : R := match l with | [a0, a1, a2] => S262 c a0 a1 a2 h | _ => none
theorem W262_ok : WOk Tryz.prog 262 W262 := by
  intro c l h r e
  unfold W262 at e
  split at e
  · exact ⟨P262, by rw [S262_eq]; exact e⟩
  · cases e
/- (*quietus/draft.Draft).Point -/
def P263 : Pl := .z
def S263 (c : CV) (a0 a1 a2 : AV) (h : AH) : R :=
pConvI .u64 a2 fun v0 =>
pCall c (.fn 262 [] []) [a0, a1, v0] h fun _ h2 =>
some ((.tup []), h2)
theorem S263_eq (c : CV) (a0 a1 a2 : AV) (h : AH) : enterK Tryz.prog NN P263 c 263 [a0, a1, a2] h = S263 c a0 a1 a2 h := by kernel_rfl
def W263 (c : CV) (l : List AV) (h : AH) : R := match l with | [a0, a1, a2] => S263 c a0 a1 a2 h | _ => none
theorem W263_ok : WOk Tryz.prog 263 W263 := by
  intro c l h r e
  unfold W263 at e
  split at e
  · exact ⟨P263, by rw [S263_eq]; exact e⟩
  · cases e
/- quietus/list.Cut$1 -/
def P264 : Pl := .z
def S264 (c : CV) (a0 a1 a2 a3 : AV) (h : AH) : R :=
pLoad1 h a1 fun v0 =>
pLoad1 h a2 fun v1 =>
pCall c (.fn 258 [] []) [a0, v0, v1] h fun v2 h3 =>
pExtract v2 0 fun v4 =>
pExtract v2 1 fun v5 =>
pLoad1 h3 a2 fun v6 =>
pCall c (.fn 260 [] []) [a0, v5, v6] h3 fun v7 h8 =>
pCond v7 (
pInt .add v5 (.int .i64 (.ofNat 1)) fun v9 =>
pCall c (.fn 265 [] []) [a0, v9] h8 fun v10 h11 =>
pCall c (.fn 262 [] []) [a0, v4, v10] h11 fun _ h13 =>
pCall c (.fn 266 [] []) [a0, v5] h13 fun _ h15 =>
pStore h15 a3 (.bool true) 1 fun h16 =>
some ((.tup []), h16)) (
some ((.tup []), h8))
theorem S264_eq (c : CV) (a0 a1 a2 a3 : AV) (h : AH) : enterK Tryz.prog NN P264 c 264 [a0, a1, a2, a3] h = S264 c a0 a1 a2 a3 h := by kernel_rfl
def W264 (c : CV) (l : List AV) (h : AH) : R := match l with | [a0, a1, a2, a3] => S264 c a0 a1 a2 a3 h | _ => none
theorem W264_ok : WOk Tryz.prog 264 W264 := by
  intro c l h r e
  unfold W264 at e
  split at e
  · exact ⟨P264, by rw [S264_eq]; exact e⟩
  · cases e
/- (*quietus/draft.Draft).Read -/
def P265 : Pl := .z
def S265 (c : CV) (a0 a1 : AV) (h : AH) : R :=
pCall c (.fn 259 [] []) [a0] h fun v0 h1 =>
pUn .not v0 fun v2 =>
pCond v2 (
some ((.int .u64 (.ofNat 0)), h1)) (
pNil a0 fun v3 =>
pFieldA v3 0 fun v4 =>
pLoad1 h1 v4 fun v5 =>
pCall c (.fn 159 [] []) [v5, a1] h1 fun v6 h7 =>
pExtract v6 0 fun v8 =>
pExtract v6 1 fun v9 =>
pCall c (.fn 314 [] []) [a0, v9] h7 fun _ h11 =>
some (v8, h11))
theorem S265_eq (c : CV) (a0 a1 : AV) (h : AH) : enterK Tryz.prog NN P265 c 265 [a0, a1] h = S265 c a0 a1 h := by kernel_rfl
def W265 (c : CV) (l : List AV) (h : AH) : R := match l with | [a0, a1] => S265 c a0 a1 h | _ => none
theorem W265_ok : WOk Tryz.prog 265 W265 := by
  intro c l h r e
  unfold W265 at e
  split at e
  · exact ⟨P265, by rw [S265_eq]; exact e⟩
  · cases e
/- (*quietus/draft.Draft).Free -/
def P266 : Pl := .z
def S266 (c : CV) (a0 a1 : AV) (h : AH) : R :=
pCall c (.fn 259 [] []) [a0] h fun v0 h1 =>
pCond v0 (
pNil a0 fun v2 =>
pFieldA v2 0 fun v3 =>
pLoad1 h1 v3 fun v4 =>
pCall c (.fn 224 [] []) [v4, a1] h1 fun v5 h6 =>
pCall c (.fn 314 [] []) [a0, v5] h6 fun _ h8 =>
some ((.tup []), h8)) (
some ((.tup []), h1))
theorem S266_eq (c : CV) (a0 a1 : AV) (h : AH) : enterK Tryz.prog NN P266 c 266 [a0, a1] h = S266 c a0 a1 h := by kernel_rfl
def W266 (c : CV) (l : List AV) (h : AH) : R := match l with | [a0, a1] => S266 c a0 a1 h | _ => none
theorem W266_ok : WOk Tryz.prog 266 W266 := by
  intro c l h r e
  unfold W266 at e
  split at e
  · exact ⟨P266, by rw [S266_eq]; exact e⟩
  · cases e
/- quietus/list.Has$1 -/
def P267 : Pl := .z
def S267 (c : CV) (a0 a1 a2 a3 : AV) (h : AH) : R :=
pLoad1 h a1 fun v0 =>
pLoad1 h a2 fun v1 =>
pCall c (.fn 258 [] []) [a0, v0, v1] h fun v2 h3 =>
pExtract v2 0 fun _ =>
pExtract v2 1 fun v5 =>
pLoad1 h3 a2 fun v6 =>
pCall c (.fn 260 [] []) [a0, v5, v6] h3 fun v7 h8 =>
pStore h8 a3 v7 1 fun h9 =>
some ((.tup []), h9)
theorem S267_eq (c : CV) (a0 a1 a2 a3 : AV) (h : AH) : enterK Tryz.prog NN P267 c 267 [a0, a1, a2, a3] h = S267 c a0 a1 a2 a3 h := by kernel_rfl
def W267 (c : CV) (l : List AV) (h : AH) : R := match l with | [a0, a1, a2, a3] => S267 c a0 a1 a2 a3 h | _ => none
theorem W267_ok : WOk Tryz.prog 267 W267 := by
  intro c l h r e
  unfold W267 at e
  split at e
  · exact ⟨P267, by rw [S267_eq]; exact e⟩
  · cases e
/- quietus/table.Put$1 -/
def P268 : Pl := (.n none .z (.n (some [6, 4, 3, 2, 0]) (.n none (.r [[20, 15, 6, 4, 3, 2, 1, 0]]) .z) (.n none .z (.n none .z (.n none .z (.n (some [7, 6, 4, 3, 2, 0]) (.n none (.r [[53, 43, 7, 6, 4, 3, 2, 0], [60, 55, 7, 6, 4, 3, 2, 0]]) .z) .z))))))
def S268 (c : CV) (a0 a1 a2 a3 a4 : AV) (h : AH) : R :=
pLoad1 h a1 fun v0 =>
pCall c (.fn 269 [] []) [a0, v0] h fun v1 h2 =>
joinC (α := AV × AV × AV × AV × AV × Unit → AH → List Nat → R) (fun s3 h4 d5 =>
pCall c (.fn 259 [] []) [s3.2.2.2.2.1] h4 fun v7 h8 =>
pUn .not v7 fun v9 =>
pCond v9 (
pLeave d5 h8 fun h10 =>
some ((.tup []), h10)) (
pLoad1 h8 s3.2.2.2.1 fun v11 =>
pCall c (.fn 271 [] []) [s3.1, v11] h8 fun v12 h13 =>
pExtract v12 0 fun v14 =>
pExtract v12 1 fun v15 =>
pInt .neq v15 (.int .i64 (.ofNat 0)) fun v16 =>
pCond v16 (
pInt .add v15 (.int .i64 (.ofNat 1)) fun v17 =>
pLoad1 h13 s3.2.2.1 fun v18 =>
pCall c (.fn 262 [] []) [s3.2.2.2.2.1, v17, v18] h13 fun _ h20 =>
pLeave d5 h20 fun h21 =>
some ((.tup []), h21)) (
joinC (α := AV × AV × AV × AV × AV × AV × Unit → AH → List Nat → R) (fun s22 h23 d24 =>
pCall c (.fn 261 [] []) [s22.2.2.2.2.2.1, (.int .i64 (.ofNat 3))] h23 fun v26 h27 =>
pInt .add v26 (.int .i64 (.ofNat 0)) fun v28 =>
pLoad1 h27 s22.2.2.2.2.1 fun v29 =>
pCall c (.fn 262 [] []) [s22.2.2.2.2.2.1, v28, v29] h27 fun _ h31 =>
pInt .add v26 (.int .i64 (.ofNat 1)) fun v32 =>
pLoad1 h31 s22.2.2.2.1 fun v33 =>
pCall c (.fn 262 [] []) [s22.2.2.2.2.2.1, v32, v33] h31 fun _ h35 =>
pInt .add v26 (.int .i64 (.ofNat 2)) fun v36 =>
pCall c (.fn 263 [] []) [s22.2.2.2.2.2.1, v36, (.int .i64 (.ofNat 0))] h35 fun _ h38 =>
pCall c (.fn 263 [] []) [s22.2.2.2.2.2.1, s22.1, v26] h38 fun _ h40 =>
pNil s22.2.1 fun v41 =>
pFieldA v41 1 fun v42 =>
pLoad1 h40 v42 fun v43 =>
pInt .add v43 (.int .i64 (.ofNat 0)) fun v44 =>
pNil s22.2.1 fun v45 =>
pFieldA v45 4 fun v46 =>
pLoad1 h40 v46 fun v47 =>
pInt .add v47 (.int .u64 (.ofNat 1)) fun v48 =>
pCall c (.fn 262 [] []) [s22.2.2.2.2.2.1, v44, v48] h40 fun _ h50 =>
pStore h50 s22.2.2.1 (.bool true) 1 fun h51 =>
pLeave d24 h51 fun h52 =>
some ((.tup []), h52)) fun j25 =>
pCall c (.fn 259 [] []) [s3.2.2.2.2.1] h13 fun v53 h54 =>
joinC (α := AV × AV × AV × AV × AV × AV × AV × AV × Unit → AH → R) (fun s55 h56 =>
pPick s55.2.1 s55.1 (.bool false) fun v58 =>
joinC (α := AV × AV × AV × AV × AV × AV × AV × AV × Unit → AH → R) (fun s59 h60 =>
pPick s59.2.1 s59.1 (.bool false) fun v62 =>
pCond v62 (
pCall c (.fn 272 [] []) [s59.2.2.2.1] h60 fun _ h64 =>
pLoad1 h64 s59.2.2.2.2.2.2.1 fun v65 =>
pCall c (.fn 271 [] []) [s59.2.2.2.1, v65] h64 fun v66 h67 =>
pExtract v66 0 fun v68 =>
pExtract v66 1 fun _ =>
j25 (v68, s59.2.2.2.1, s59.2.2.2.2.1, s59.2.2.2.2.2.1, s59.2.2.2.2.2.2.1, s59.2.2.2.2.2.2.2.1, ()) h67 d5) (
j25 (s59.2.2.1, s59.2.2.2.1, s59.2.2.2.2.1, s59.2.2.2.2.2.1, s59.2.2.2.2.2.2.1, s59.2.2.2.2.2.2.2.1, ()) h60 d5)) fun j61 =>
pWant v58 true (
pNil s55.2.2.2.1 fun v70 =>
pFieldA v70 2 fun v71 =>
pLoad1 h56 v71 fun v72 =>
pInt .lss v72 (.int .i64 (.ofNat 16)) fun v73 =>
j61 (v73, v58, s55.2.2.1, s55.2.2.2.1, s55.2.2.2.2.1, s55.2.2.2.2.2.1, s55.2.2.2.2.2.2.1, s55.2.2.2.2.2.2.2.1, ()) h56) (
j61 (.undef, v58, s55.2.2.1, s55.2.2.2.1, s55.2.2.2.2.1, s55.2.2.2.2.2.1, s55.2.2.2.2.2.2.1, s55.2.2.2.2.2.2.2.1, ()) h56)) fun j57 =>
pWant v53 true (
pNil s3.1 fun v74 =>
pFieldA v74 4 fun v75 =>
pLoad1 h54 v75 fun v76 =>
pNil s3.1 fun v77 =>
pFieldA v77 2 fun v78 =>
pLoad1 h54 v78 fun v79 =>
pConvI .u64 v79 fun v80 =>
pInt .geq v76 v80 fun v81 =>
j57 (v81, v53, v14, s3.1, s3.2.1, s3.2.2.1, s3.2.2.2.1, s3.2.2.2.2.1, ()) h54) (
j57 (.undef, v53, v14, s3.1, s3.2.1, s3.2.2.1, s3.2.2.2.1, s3.2.2.2.2.1, ()) h54)))) fun j6 =>
pCall c (.fn 259 [] []) [a0] h2 fun v82 h83 =>
joinC (α := AV × AV × AV × AV × AV × AV × AV × AV × Unit → AH → R) (fun s84 h85 =>
pPick s84.2.1 s84.1 (.bool false) fun v87 =>
pCond v87 (
pLoad1 h85 s84.2.2.2.2.2.2.1 fun v88 =>
pCall c (.fn 270 [] []) [s84.2.2.2.2.2.2.2.1, v88] h85 fun v89 h90 =>
j6 (v89, s84.2.2.2.1, s84.2.2.2.2.1, s84.2.2.2.2.2.1, s84.2.2.2.2.2.2.2.1, ()) h90 []) (
j6 (s84.2.2.1, s84.2.2.2.1, s84.2.2.2.2.1, s84.2.2.2.2.2.1, s84.2.2.2.2.2.2.2.1, ()) h85 [])) fun j86 =>
pWant v82 true (
pNil v1 fun v91 =>
pFieldA v91 1 fun v92 =>
pLoad1 h83 v92 fun v93 =>
pInt .eql v93 (.int .i64 (.ofNat 0)) fun v94 =>
j86 (v94, v82, v1, a4, a3, a2, a1, a0, ()) h83) (
j86 (.undef, v82, v1, a4, a3, a2, a1, a0, ()) h83)
theorem S268_eq (c : CV) (a0 a1 a2 a3 a4 : AV) (h : AH) : enterK Tryz.prog NN P268 c 268 [a0, a1, a2, a3, a4] h = S268 c a0 a1 a2 a3 a4 h := by kernel_rfl
def W268 (c : CV) (l : List AV) (h : AH) : R := match l with | [a0, a1, a2, a3, a4] => S268 c a0 a1 a2 a3 a4 h | _ => none
theorem W268_ok : WOk Tryz.prog 268 W268 := by
  intro c l h r e
  unfold W268 at e
  split at e
  · exact ⟨P268, by rw [S268_eq]; exact e⟩
  · cases e
/- quietus/table.open -/
def P269 : Pl := (.n none .z (.n none .z (.n none .z (.n none .z (.n none .z (.n (some [6, 5, 0]) (.n none (.r [[40, 38, 6, 5, 0], [47, 42, 6, 5, 0]]) .z) .z))))))
def S269 (c : CV) (a0 a1 : AV) (h : AH) : R :=
pCall c (.fn 313 [] []) [a0, a1] h fun v0 h1 =>
pBuild [.nilp, (.int .i64 (.ofNat 0)), (.int .i64 (.ofNat 0)), (.int .i64 (.ofNat 0)), (.int .u64 (.ofNat 0))] [(0, 1, a0), (1, 1, v0)] fun v2 =>
pBox h1 321 v2 fun v3 h4 =>
pNil v3 fun v5 =>
pFieldA v5 1 fun v6 =>
pLoad1 h4 v6 fun v7 =>
pInt .eql v7 (.int .i64 (.ofNat 0)) fun v8 =>
pCond v8 (
some (v3, h4)) (
pNil v3 fun v9 =>
pFieldA v9 1 fun v10 =>
pLoad1 h4 v10 fun v11 =>
pInt .add v11 (.int .i64 (.ofNat 0)) fun v12 =>
pCall c (.fn 265 [] []) [a0, v12] h4 fun v13 h14 =>
pNil v3 fun v15 =>
pFieldA v15 4 fun v16 =>
pStore h14 v16 v13 1 fun h17 =>
pNil v3 fun v18 =>
pFieldA v18 1 fun v19 =>
pLoad1 h17 v19 fun v20 =>
pInt .add v20 (.int .i64 (.ofNat 1)) fun v21 =>
pCall c (.fn 265 [] []) [a0, v21] h17 fun v22 h23 =>
joinC (α := AV × AV × AV × Unit → AH → List Nat → R) (fun s24 h25 d26 =>
pConvI .i64 s24.1 fun v28 =>
pNil s24.2.1 fun v29 =>
pFieldA v29 1 fun v30 =>
pLoad1 h25 v30 fun v31 =>
pInt .add v31 (.int .i64 (.ofNat 2)) fun v32 =>
pCall c (.fn 313 [] []) [s24.2.2.1, v32] h25 fun v33 h34 =>
pNil s24.2.1 fun v35 =>
pFieldA v35 2 fun v36 =>
pStore h34 v36 v28 1 fun h37 =>
pNil s24.2.1 fun v38 =>
pFieldA v38 3 fun v39 =>
pStore h37 v39 v33 1 fun h40 =>
pLeave d26 h40 fun h41 =>
some (s24.2.1, h41)) fun j27 =>
pInt .lss v22 (.int .u64 (.ofNat 2)) fun v42 =>
joinC (α := AV × AV × AV × AV × AV × Unit → AH → R) (fun s43 h44 =>
pPick s43.2.1 (.bool true) s43.1 fun v46 =>
joinC (α := AV × AV × AV × AV × AV × Unit → AH → R) (fun s47 h48 =>
pPick s47.2.1 (.bool true) s47.1 fun v50 =>
pCond v50 (
pCall c (.fn 314 [] []) [s47.2.2.2.2.1, (.int .i64 (.ofNat 2))] h48 fun _ h52 =>
j27 ((.int .u64 (.ofNat 2)), s47.2.2.2.1, s47.2.2.2.2.1, ()) h52 []) (
j27 (s47.2.2.1, s47.2.2.2.1, s47.2.2.2.2.1, ()) h48 [])) fun j49 =>
pWant v46 false (
pInt .sub s43.2.2.1 (.int .u64 (.ofNat 1)) fun v53 =>
pInt .and s43.2.2.1 v53 fun v54 =>
pInt .neq v54 (.int .u64 (.ofNat 0)) fun v55 =>
j49 (v55, v46, s43.2.2.1, s43.2.2.2.1, s43.2.2.2.2.1, ()) h44) (
j49 (.undef, v46, s43.2.2.1, s43.2.2.2.1, s43.2.2.2.2.1, ()) h44)) fun j45 =>
pWant v42 false (
pInt .gtr v22 (.int .u64 (.ofNat 16)) fun v56 =>
j45 (v56, v42, v22, v3, a0, ()) h23) (
j45 (.undef, v42, v22, v3, a0, ()) h23))
theorem S269_eq (c : CV) (a0 a1 : AV) (h : AH) : enterK Tryz.prog NN P269 c 269 [a0, a1] h = S269 c a0 a1 h := by kernel_rfl
def W269 (c : CV) (l : List AV) (h : AH) : R := match l with | [a0, a1] => S269 c a0 a1 h | _ => none
theorem W269_ok : WOk Tryz.prog 269 W269 := by
  intro c l h r e
  unfold W269 at e
  split at e
  · exact ⟨P269, by rw [S269_eq]; exact e⟩
  · cases e
/- quietus/table.made -/
def P270 : Pl := (.n none .z (.n none .z (.n none (.n none .z (.n none (.n (some [14, 5, 1, 0]) .z .z) .z)) .z)))
def S270 (c : CV) (a0 a1 : AV) (h : AH) : R :=
pCall c (.fn 261 [] []) [a0, (.int .i64 (.ofNat 3))] h fun v0 h1 =>
pCall c (.fn 261 [] []) [a0, (.int .i64 (.ofNat 2))] h1 fun v2 h3 =>
pBuild [.nilp, (.int .i64 (.ofNat 0)), (.int .i64 (.ofNat 0)), (.int .i64 (.ofNat 0)), (.int .u64 (.ofNat 0))] [(0, 1, a0), (1, 1, v0), (2, 1, (.int .i64 (.ofNat 2))), (3, 1, v2)] fun v4 =>
pBox h3 321 v4 fun v5 h6 =>
loopC (σ := AV × AV × AV × AV × Unit) NN (fun i10 s7 h8 d9 =>
pInt .lss s7.1 (.int .i64 (.ofNat 2)) fun v11 =>
pCond v11 (
pNil s7.2.1 fun v12 =>
pFieldA v12 3 fun v13 =>
pLoad1 h8 v13 fun v14 =>
pInt .add v14 s7.1 fun v15 =>
pCall c (.fn 263 [] []) [s7.2.2.2.1, v15, (.int .i64 (.ofNat 0))] h8 fun _ h17 =>
pInt .add s7.1 (.int .i64 (.ofNat 1)) fun v18 =>
i10 (v18, s7.2.1, s7.2.2.1, s7.2.2.2.1, ()) h17 d9) (
pNil s7.2.1 fun v19 =>
pFieldA v19 1 fun v20 =>
pLoad1 h8 v20 fun v21 =>
pInt .add v21 (.int .i64 (.ofNat 0)) fun v22 =>
pCall c (.fn 263 [] []) [s7.2.2.2.1, v22, (.int .i64 (.ofNat 0))] h8 fun _ h24 =>
pNil s7.2.1 fun v25 =>
pFieldA v25 1 fun v26 =>
pLoad1 h24 v26 fun v27 =>
pInt .add v27 (.int .i64 (.ofNat 1)) fun v28 =>
pCall c (.fn 263 [] []) [s7.2.2.2.1, v28, (.int .i64 (.ofNat 2))] h24 fun _ h30 =>
pNil s7.2.1 fun v31 =>
pFieldA v31 1 fun v32 =>
pLoad1 h30 v32 fun v33 =>
pInt .add v33 (.int .i64 (.ofNat 2)) fun v34 =>
pNil s7.2.1 fun v35 =>
pFieldA v35 3 fun v36 =>
pLoad1 h30 v36 fun v37 =>
pCall c (.fn 263 [] []) [s7.2.2.2.1, v34, v37] h30 fun _ h39 =>
pNil s7.2.1 fun v40 =>
pFieldA v40 1 fun v41 =>
pLoad1 h39 v41 fun v42 =>
pCall c (.fn 263 [] []) [s7.2.2.2.1, s7.2.2.1, v42] h39 fun _ h44 =>
pLeave d9 h44 fun h45 =>
some (s7.2.1, h45))) ((.int .i64 (.ofNat 0)), v5, a1, a0, ()) h6 []
theorem S270_eq (c : CV) (a0 a1 : AV) (h : AH) : enterK Tryz.prog NN P270 c 270 [a0, a1] h = S270 c a0 a1 h := by kernel_rfl
def W270 (c : CV) (l : List AV) (h : AH) : R := match l with | [a0, a1] => S270 c a0 a1 h | _ => none
theorem W270_ok : WOk Tryz.prog 270 W270 := by
  intro c l h r e
  unfold W270 at e
  split at e
  · exact ⟨P270, by rw [S270_eq]; exact e⟩
  · cases e
/- (*quietus/table.table).seek -/
def P271 : Pl := (.n none .z (.n none (.r [[4, 1, 0]]) (.n none (.n none (.n (some [4, 1, 0]) (.n none .z (.n none (.n none .z (.n none (.n none (.r [[39, 30, 5, 4, 1, 0]]) .z) .z)) .z)) .z) .z) .z)))
def S271 (c : CV) (a0 a1 : AV) (h : AH) : R :=
joinC (α := AV × AV × AV × Unit → AH → R) (fun s0 h1 =>
loopC (σ := AV × AV × AV × Unit) NN (fun i6 s3 h4 d5 =>
pNil s3.2.2.1 fun v7 =>
pFieldA v7 0 fun v8 =>
pLoad1 h4 v8 fun v9 =>
pCall c (.fn 312 [] []) [v9] h4 fun v10 h11 =>
pCond v10 (
pNil s3.2.2.1 fun v12 =>
pFieldA v12 0 fun v13 =>
pLoad1 h11 v13 fun v14 =>
pCall c (.fn 313 [] []) [v14, s3.1] h11 fun v15 h16 =>
pInt .eql v15 (.int .i64 (.ofNat 0)) fun v17 =>
joinC (α := AV × AV × AV × AV × AV × AV × Unit → AH → R) (fun s18 h19 =>
pPick s18.2.1 (.bool true) s18.1 fun v21 =>
pCond v21 (
pLeave d5 h19 fun h22 =>
some ((.tup [s18.2.2.2.1, s18.2.2.1]), h22)) (
pInt .add s18.2.2.1 (.int .i64 (.ofNat 2)) fun v23 =>
i6 (v23, s18.2.2.2.2.1, s18.2.2.2.2.2.1, ()) h19 d5)) fun j20 =>
pWant v17 false (
pNil s3.2.2.1 fun v24 =>
pFieldA v24 0 fun v25 =>
pLoad1 h16 v25 fun v26 =>
pInt .add v15 (.int .i64 (.ofNat 0)) fun v27 =>
pCall c (.fn 265 [] []) [v26, v27] h16 fun v28 h29 =>
pInt .eql v28 s3.2.1 fun v30 =>
j20 (v30, v17, v15, s3.1, s3.2.1, s3.2.2.1, ()) h29) (
j20 (.undef, v17, v15, s3.1, s3.2.1, s3.2.2.1, ()) h16)) (
pLeave d5 h11 fun h31 =>
some ((.tup [s3.1, (.int .i64 (.ofNat 0))]), h31))) (s0.1, s0.2.1, s0.2.2.1, ()) h1 []) fun j2 =>
pNil a0 fun v32 =>
pFieldA v32 3 fun v33 =>
pLoad1 h v33 fun v34 =>
pNil a0 fun v35 =>
pFieldA v35 2 fun v36 =>
pLoad1 h v36 fun v37 =>
pCall c (.fn 315 [] []) [a1, v37] h fun v38 h39 =>
pInt .add v34 v38 fun v40 =>
pChk v33 none v34 h h39 h.nx <|
j2 (v40, a1, a0, ()) h39
theorem S271_eq (c : CV) (a0 a1 : AV) (h : AH) : enterK Tryz.prog NN P271 c 271 [a0, a1] h = S271 c a0 a1 h := by kernel_rfl
def W271 (c : CV) (l : List AV) (h : AH) : R := match l with | [a0, a1] => S271 c a0 a1 h | _ => none
theorem W271_ok : WOk Tryz.prog 271 W271 := by
  intro c l h r e
  unfold W271 at e
  split at e
  · exact ⟨P271, by rw [S271_eq]; exact e⟩
  · cases e
/- (*quietus/table.table).grow -/
def P272 : Pl := (.n none .z (.n none .z (.n none .z (.n none .z (.n none .z (.n none (.n none .z (.n none (.n (some [25, 24, 23, 4, 2, 1]) .z .z) .z)) (.n none .z (.n none (.r [[4, 2, 1]]) .z))))))))
def S272 (c : CV) (a0 : AV) (h : AH) : R :=
pBox h 318 a0 fun v0 h1 =>
pLoad1 h1 v0 fun v2 =>
pNil v2 fun v3 =>
pFieldA v3 2 fun v4 =>
pLoad1 h1 v4 fun v5 =>
pInt .mul (.int .i64 (.ofNat 2)) v5 fun v6 =>
pBox h1 3 (.int .i64 (.ofNat 0)) fun v7 h8 =>
pStore h8 v7 v6 1 fun h9 =>
pLoad1 h9 v7 fun v10 =>
pMake h9 3 [(.int .i64 (.ofNat 0))] v10 v10 fun v11 h12 =>
pBox h12 109 .nils fun v13 h14 =>
pStore h14 v13 v11 1 fun h15 =>
pLoad1 h15 v0 fun v16 =>
pNil v16 fun v17 =>
pFieldA v17 0 fun v18 =>
pLoad1 h15 v18 fun v19 =>
pLoad1 h15 v7 fun v20 =>
pCall c (.fn 261 [] []) [v19, v20] h15 fun v21 h22 =>
pLoad1 h22 v0 fun v23 =>
pCall c (.fn 316 [] []) [v23, (.fn 317 [] [v0, v7, v13])] h22 fun _ h25 =>
pLoad1 h25 v13 fun v26 =>
pLenS v26 fun v27 =>
loopC (σ := AV × AV × AV × AV × AV × AV × Unit) NN (fun i31 s28 h29 d30 =>
pInt .lss s28.1 s28.2.1 fun v32 =>
pCond v32 (
pIdxS s28.2.2.1 s28.1 1 fun v33 =>
pLoad1 h29 v33 fun v34 =>
pLoad1 h29 s28.2.2.2.2.2.1 fun v35 =>
pNil v35 fun v36 =>
pFieldA v36 0 fun v37 =>
pLoad1 h29 v37 fun v38 =>
pInt .add s28.2.2.2.1 s28.1 fun v39 =>
pCall c (.fn 263 [] []) [v38, v39, v34] h29 fun _ h41 =>
pInt .add s28.1 (.int .i64 (.ofNat 1)) fun v42 =>
i31 (v42, s28.2.1, s28.2.2.1, s28.2.2.2.1, s28.2.2.2.2.1, s28.2.2.2.2.2.1, ()) h41 d30) (
pLoad1 h29 s28.2.2.2.2.2.1 fun v43 =>
pNil v43 fun v44 =>
pFieldA v44 0 fun v45 =>
pLoad1 h29 v45 fun v46 =>
pLoad1 h29 s28.2.2.2.2.2.1 fun v47 =>
pNil v47 fun v48 =>
pFieldA v48 3 fun v49 =>
pLoad1 h29 v49 fun v50 =>
pCall c (.fn 266 [] []) [v46, v50] h29 fun _ h52 =>
joinC (α := AV × AV × AV × Unit → AH → R) (fun s53 h54 =>
pLoad1 h54 s53.2.2.1 fun v56 =>
pNil v56 fun v57 =>
pFieldA v57 0 fun v58 =>
pLoad1 h54 v58 fun v59 =>
pLoad1 h54 s53.2.2.1 fun v60 =>
pNil v60 fun v61 =>
pFieldA v61 1 fun v62 =>
pLoad1 h54 v62 fun v63 =>
pInt .add v63 (.int .i64 (.ofNat 1)) fun v64 =>
pLoad1 h54 s53.2.1 fun v65 =>
pCall c (.fn 263 [] []) [v59, v64, v65] h54 fun _ h67 =>
pLoad1 h67 s53.2.2.1 fun v68 =>
pNil v68 fun v69 =>
pFieldA v69 0 fun v70 =>
pLoad1 h67 v70 fun v71 =>
pLoad1 h67 s53.2.2.1 fun v72 =>
pNil v72 fun v73 =>
pFieldA v73 1 fun v74 =>
pLoad1 h67 v74 fun v75 =>
pInt .add v75 (.int .i64 (.ofNat 2)) fun v76 =>
pCall c (.fn 263 [] []) [v71, v76, s53.1] h67 fun _ h78 =>
pLeave d30 h78 fun h79 =>
some ((.tup []), h79)) fun j55 =>
pLoad1 h52 s28.2.2.2.2.2.1 fun v80 =>
pLoad1 h52 s28.2.2.2.2.2.1 fun v81 =>
pLoad1 h52 s28.2.2.2.2.1 fun v82 =>
pNil v80 fun v83 =>
pFieldA v83 2 fun v84 =>
pStore h52 v84 v82 1 fun h85 =>
pNil v81 fun v86 =>
pFieldA v86 3 fun v87 =>
pStore h85 v87 s28.2.2.2.1 1 fun h88 =>
pChk s28.2.2.2.2.2.1 none v81 h52 h85 h52.nx <|
j55 (s28.2.2.2.1, s28.2.2.2.2.1, s28.2.2.2.2.2.1, ()) h88)) ((.int .i64 (.ofNat 0)), v27, v26, v21, v7, v0, ()) h25 []
theorem S272_eq (c : CV) (a0 : AV) (h : AH) : enterK Tryz.prog NN P272 c 272 [a0] h = S272 c a0 h := by kernel_rfl
def W272 (c : CV) (l : List AV) (h : AH) : R := match l with | [a0] => S272 c a0 h | _ => none
theorem W272_ok : WOk Tryz.prog 272 W272 := by
  intro c l h r e
  unfold W272 at e
  split at e
  · exact ⟨P272, by rw [S272_eq]; exact e⟩
  · cases e
/- (*quietus/interp.Interp).number$1 -/
def P273 : Pl := (.n none .z (.n none .z (.n none (.n none (.r [[20, 13, 4, 3, 1, 0], [25, 22, 4, 3, 0], [31, 25, 22, 4, 3, 0], [32, 22, 4, 3, 0]]) .z) .z)))
def S273 (c : CV) (a0 a1 a2 a3 a4 : AV) (h : AH) : R :=
pInt .neq a2 (.int .i64 (.ofNat 0)) fun v0 =>
pCond v0 (
some (a2, h)) (
joinC (α := AV × AV × AV × AV × AV × AV × Unit → AH → R) (fun s1 h2 =>
pPick s1.2.1 s1.1 (.bool false) fun v4 =>
joinC (α := AV × AV × AV × AV × AV × Unit → AH → R) (fun s5 h6 =>
joinC (α := AV × AV × AV × AV × AV × AV × Unit → AH → R) (fun s8 h9 =>
joinC (α := AV × AV × AV × AV × AV × Unit → AH → R) (fun s11 h12 =>
pPick s11.2.1 (.bool true) s11.1 fun v14 =>
pCond v14 (
some ((.int .i64 (.ofNat 5)), h12)) (
pLoad1 h12 s11.2.2.2.1 fun v15 =>
pFieldA s11.2.2.1 3 fun v16 =>
pLoad1 h12 v16 fun v17 =>
pNil v15 fun v18 =>
pFieldA v18 6 fun v19 =>
pIdxP v19 v17 8 1 fun v20 =>
pStore h12 v20 s11.2.2.2.2.1 1 fun h21 =>
some ((.int .i64 (.ofNat 0)), h21))) fun j13 =>
pWant s8.2.2.1 false (
pPick s8.2.1 s8.1 (.bool false) fun v22 =>
j13 (v22, s8.2.2.1, s8.2.2.2.1, s8.2.2.2.2.1, s8.2.2.2.2.2.1, ()) h9) (
j13 (.undef, s8.2.2.1, s8.2.2.2.1, s8.2.2.2.2.1, s8.2.2.2.2.2.1, ()) h9)) fun j10 =>
pWant s5.1 true (
pLoad1 h6 s5.2.2.2.1 fun v23 =>
pNil v23 fun v24 =>
pFieldA v24 14 fun v25 =>
pLoad1 h6 v25 fun v26 =>
pCall c (.fn 274 [] []) [v26] h6 fun v27 h28 =>
pUn .not v27 fun v29 =>
j10 (v29, s5.1, s5.2.1, s5.2.2.1, s5.2.2.2.1, s5.2.2.2.2.1, ()) h28) (
j10 (.undef, s5.1, s5.2.1, s5.2.2.1, s5.2.2.2.1, s5.2.2.2.2.1, ()) h6)) fun j7 =>
pWant v4 false (
pUn .not s1.2.2.2.2.1 fun v30 =>
j7 (v30, v4, s1.2.2.1, s1.2.2.2.1, s1.2.2.2.2.2.1, ()) h2) (
j7 (.undef, v4, s1.2.2.1, s1.2.2.2.1, s1.2.2.2.2.2.1, ()) h2)) fun j3 =>
pWant a1 true (
pLoad1 h a3 fun v31 =>
pNil v31 fun v32 =>
pFieldA v32 14 fun v33 =>
pLoad1 h v33 fun v34 =>
pCall c (.fn 186 [] []) [v34, a0] h fun v35 h36 =>
pUn .not v35 fun v37 =>
j3 (v37, a1, a4, a3, a1, a0, ()) h36) (
j3 (.undef, a1, a4, a3, a1, a0, ()) h))
theorem S273_eq (c : CV) (a0 a1 a2 a3 a4 : AV) (h : AH) : enterK Tryz.prog NN P273 c 273 [a0, a1, a2, a3, a4] h = S273 c a0 a1 a2 a3 a4 h := by kernel_rfl
def W273 (c : CV) (l : List AV) (h : AH) : R := match l with | [a0, a1, a2, a3, a4] => S273 c a0 a1 a2 a3 a4 h | _ => none
theorem W273_ok : WOk Tryz.prog 273 W273 := by
  intro c l h r e
  unfold W273 at e
  split at e
  · exact ⟨P273, by rw [S273_eq]; exact e⟩
  · cases e
/- (*quietus/slate.Slate).AddNone -/
def P274 : Pl := .z
def S274 (c : CV) (a0 : AV) (h : AH) : R :=
pBuild [] [] fun v0 =>
pCall c (.fn 206 [] []) [a0, (.iface 347 v0)] h fun v1 h2 =>
some (v1, h2)
theorem S274_eq (c : CV) (a0 : AV) (h : AH) : enterK Tryz.prog NN P274 c 274 [a0] h = S274 c a0 h := by kernel_rfl
def W274 (c : CV) (l : List AV) (h : AH) : R := match l with | [a0] => S274 c a0 h | _ => none
theorem W274_ok : WOk Tryz.prog 274 W274 := by
  intro c l h r e
  unfold W274 at e
  split at e
  · exact ⟨P274, by rw [S274_eq]; exact e⟩
  · cases e
/- quietus/table.Get$1 -/
def P275 : Pl := (.n none .z (.n none (.n none (.r [[20, 15, 6, 4, 3, 2, 0]]) .z) .z))
def S275 (c : CV) (a0 a1 a2 a3 a4 : AV) (h : AH) : R :=
pLoad1 h a1 fun v0 =>
pCall c (.fn 269 [] []) [a0, v0] h fun v1 h2 =>
pCall c (.fn 259 [] []) [a0] h2 fun v3 h4 =>
pUn .not v3 fun v5 =>
joinC (α := AV × AV × AV × AV × AV × AV × AV × Unit → AH → R) (fun s6 h7 =>
pPick s6.2.1 (.bool true) s6.1 fun v9 =>
pCond v9 (
some ((.tup []), h7)) (
pLoad1 h7 s6.2.2.2.2.2.1 fun v10 =>
pCall c (.fn 271 [] []) [s6.2.2.1, v10] h7 fun v11 h12 =>
pExtract v11 0 fun _ =>
pExtract v11 1 fun v14 =>
pInt .neq v14 (.int .i64 (.ofNat 0)) fun v15 =>
pCond v15 (
pInt .add v14 (.int .i64 (.ofNat 1)) fun v16 =>
pCall c (.fn 265 [] []) [s6.2.2.2.2.2.2.1, v16] h12 fun v17 h18 =>
pStore h18 s6.2.2.2.2.1 v17 1 fun h19 =>
pStore h19 s6.2.2.2.1 (.bool true) 1 fun h20 =>
some ((.tup []), h20)) (
some ((.tup []), h12)))) fun j8 =>
pWant v5 false (
pNil v1 fun v21 =>
pFieldA v21 1 fun v22 =>
pLoad1 h4 v22 fun v23 =>
pInt .eql v23 (.int .i64 (.ofNat 0)) fun v24 =>
j8 (v24, v5, v1, a4, a3, a2, a0, ()) h4) (
j8 (.undef, v5, v1, a4, a3, a2, a0, ()) h4)
theorem S275_eq (c : CV) (a0 a1 a2 a3 a4 : AV) (h : AH) : enterK Tryz.prog NN P275 c 275 [a0, a1, a2, a3, a4] h = S275 c a0 a1 a2 a3 a4 h := by kernel_rfl
def W275 (c : CV) (l : List AV) (h : AH) : R := match l with | [a0, a1, a2, a3, a4] => S275 c a0 a1 a2 a3 a4 h | _ => none
theorem W275_ok : WOk Tryz.prog 275 W275 := by
  intro c l h r e
  unfold W275 at e
  split at e
  · exact ⟨P275, by rw [S275_eq]; exact e⟩
  · cases e
/- quietus/table.Del$1 -/
def P276 : Pl := (.n none .z (.n none (.n none (.r [[19, 14, 5, 3, 2, 0]]) .z) .z))
def S276 (c : CV) (a0 a1 a2 a3 : AV) (h : AH) : R :=
pLoad1 h a1 fun v0 =>
pCall c (.fn 269 [] []) [a0, v0] h fun v1 h2 =>
pCall c (.fn 259 [] []) [a0] h2 fun v3 h4 =>
pUn .not v3 fun v5 =>
joinC (α := AV × AV × AV × AV × AV × AV × Unit → AH → R) (fun s6 h7 =>
pPick s6.2.1 (.bool true) s6.1 fun v9 =>
pCond v9 (
some ((.tup []), h7)) (
pLoad1 h7 s6.2.2.2.2.1 fun v10 =>
pCall c (.fn 271 [] []) [s6.2.2.1, v10] h7 fun v11 h12 =>
pExtract v11 0 fun v13 =>
pExtract v11 1 fun v14 =>
pInt .neq v14 (.int .i64 (.ofNat 0)) fun v15 =>
pCond v15 (
pInt .add v14 (.int .i64 (.ofNat 2)) fun v16 =>
pCall c (.fn 265 [] []) [s6.2.2.2.2.2.1, v16] h12 fun v17 h18 =>
pCall c (.fn 262 [] []) [s6.2.2.2.2.2.1, v13, v17] h18 fun _ h20 =>
pNil s6.2.2.1 fun v21 =>
pFieldA v21 1 fun v22 =>
pLoad1 h20 v22 fun v23 =>
pInt .add v23 (.int .i64 (.ofNat 0)) fun v24 =>
pNil s6.2.2.1 fun v25 =>
pFieldA v25 4 fun v26 =>
pLoad1 h20 v26 fun v27 =>
pInt .sub v27 (.int .u64 (.ofNat 1)) fun v28 =>
pCall c (.fn 262 [] []) [s6.2.2.2.2.2.1, v24, v28] h20 fun _ h30 =>
pCall c (.fn 266 [] []) [s6.2.2.2.2.2.1, v14] h30 fun _ h32 =>
pStore h32 s6.2.2.2.1 (.bool true) 1 fun h33 =>
some ((.tup []), h33)) (
some ((.tup []), h12)))) fun j8 =>
pWant v5 false (
pNil v1 fun v34 =>
pFieldA v34 1 fun v35 =>
pLoad1 h4 v35 fun v36 =>
pInt .eql v36 (.int .i64 (.ofNat 0)) fun v37 =>
j8 (v37, v5, v1, a3, a2, a0, ()) h4) (
j8 (.undef, v5, v1, a3, a2, a0, ()) h4)
theorem S276_eq (c : CV) (a0 a1 a2 a3 : AV) (h : AH) : enterK Tryz.prog NN P276 c 276 [a0, a1, a2, a3] h = S276 c a0 a1 a2 a3 h := by kernel_rfl
def W276 (c : CV) (l : List AV) (h : AH) : R := match l with | [a0, a1, a2, a3] => S276 c a0 a1 a2 a3 h | _ => none
theorem W276_ok : WOk Tryz.prog 276 W276 := by
  intro c l h r e
  unfold W276 at e
  split at e
  · exact ⟨P276, by rw [S276_eq]; exact e⟩
  · cases e
/- quietus/queue.Push -/
def P277 : Pl := .z
def S277 (c : CV) (a0 a1 a2 : AV) (h : AH) : R :=
pBox h 3 a1 fun v0 h1 =>
pBox h1 22 a2 fun v2 h3 =>
pLoad1 h3 v0 fun v4 =>
pCall c (.fn 256 [] []) [a0, v4, (.fn 318 [] [v0, v2])] h3 fun v5 h6 =>
some (v5, h6)
theorem S277_eq (c : CV) (a0 a1 a2 : AV) (h : AH) : enterK Tryz.prog NN P277 c 277 [a0, a1, a2] h = S277 c a0 a1 a2 h := by kernel_rfl
def W277 (c : CV) (l : List AV) (h : AH) : R := match l with | [a0, a1, a2] => S277 c a0 a1 a2 h | _ => none
theorem W277_ok : WOk Tryz.prog 277 W277 := by
  intro c l h r e
  unfold W277 at e
  split at e
  · exact ⟨P277, by rw [S277_eq]; exact e⟩
  · cases e
/- quietus/queue.Take -/
def P278 : Pl := .z
def S278 (c : CV) (a0 a1 : AV) (h : AH) : R :=
pBox h 3 a1 fun v0 h1 =>
pBox h1 22 (.int .u64 (.ofNat 0)) fun v2 h3 =>
pBox h3 4 (.bool false) fun v4 h5 =>
pStore h5 v2 (.int .u64 (.ofNat 0)) 1 fun h6 =>
pStore h6 v4 (.bool false) 1 fun h7 =>
pLoad1 h7 v0 fun v8 =>
pCall c (.fn 256 [] []) [a0, v8, (.fn 319 [] [v0, v2, v4])] h7 fun v9 h10 =>
pInt .neq v9 (.int .i64 (.ofNat 0)) fun v11 =>
pCond v11 (
some ((.tup [(.int .u64 (.ofNat 0)), (.bool false), v9]), h10)) (
pLoad1 h10 v2 fun v12 =>
pLoad1 h10 v4 fun v13 =>
some ((.tup [v12, v13, (.int .i64 (.ofNat 0))]), h10))
theorem S278_eq (c : CV) (a0 a1 : AV) (h : AH) : enterK Tryz.prog NN P278 c 278 [a0, a1] h = S278 c a0 a1 h := by kernel_rfl
def W278 (c : CV) (l : List AV) (h : AH) : R := match l with | [a0, a1] => S278 c a0 a1 h | _ => none
theorem W278_ok : WOk Tryz.prog 278 W278 := by
  intro c l h r e
  unfold W278 at e
  split at e
  · exact ⟨P278, by rw [S278_eq]; exact e⟩
  · cases e
/- quietus/tree.Put$1 -/
def P279 : Pl := .z
def S279 (c : CV) (a0 a1 a2 a3 a4 : AV) (h : AH) : R :=
pLoad1 h a1 fun v0 =>
pBuild [.nilp, (.int .i64 (.ofNat 0)), .nils] [(0, 1, a0), (1, 1, v0)] fun v1 =>
pBox h 328 v1 fun v2 h3 =>
pLoad1 h3 a2 fun v4 =>
pCall c (.fn 280 [] []) [v2, v4] h3 fun v5 h6 =>
pCall c (.fn 259 [] []) [a0] h6 fun v7 h8 =>
pUn .not v7 fun v9 =>
pCond v9 (
some ((.tup []), h8)) (
pInt .neq v5 (.int .i64 (.ofNat 0)) fun v10 =>
pCond v10 (
pInt .add v5 (.int .i64 (.ofNat 1)) fun v11 =>
pLoad1 h8 a3 fun v12 =>
pCall c (.fn 262 [] []) [a0, v11, v12] h8 fun _ h14 =>
some ((.tup []), h14)) (
pCall c (.fn 261 [] []) [a0, (.int .i64 (.ofNat 4))] h8 fun v15 h16 =>
pInt .add v15 (.int .i64 (.ofNat 0)) fun v17 =>
pLoad1 h16 a2 fun v18 =>
pCall c (.fn 262 [] []) [a0, v17, v18] h16 fun _ h20 =>
pInt .add v15 (.int .i64 (.ofNat 1)) fun v21 =>
pLoad1 h20 a3 fun v22 =>
pCall c (.fn 262 [] []) [a0, v21, v22] h20 fun _ h24 =>
pInt .add v15 (.int .i64 (.ofNat 2)) fun v25 =>
pCall c (.fn 262 [] []) [a0, v25, (.int .u64 (.ofNat 1))] h24 fun _ h27 =>
pInt .add v15 (.int .i64 (.ofNat 3)) fun v28 =>
pCall c (.fn 263 [] []) [a0, v28, (.int .i64 (.ofNat 0))] h27 fun _ h30 =>
pNil v2 fun v31 =>
pFieldA v31 2 fun v32 =>
pLoad1 h30 v32 fun v33 =>
pLenS v33 fun v34 =>
pCall c (.fn 281 [] []) [v2, v34, v15] h30 fun _ h36 =>
pCall c (.fn 282 [] []) [v2] h36 fun _ h38 =>
pStore h38 a4 (.bool true) 1 fun h39 =>
some ((.tup []), h39)))
theorem S279_eq (c : CV) (a0 a1 a2 a3 a4 : AV) (h : AH) : enterK Tryz.prog NN P279 c 279 [a0, a1, a2, a3, a4] h = S279 c a0 a1 a2 a3 a4 h := by kernel_rfl
def W279 (c : CV) (l : List AV) (h : AH) : R := match l with | [a0, a1, a2, a3, a4] => S279 c a0 a1 a2 a3 a4 h | _ => none
theorem W279_ok : WOk Tryz.prog 279 W279 := by
  intro c l h r e
  unfold W279 at e
  split at e
  · exact ⟨P279, by rw [S279_eq]; exact e⟩
  · cases e
/- (*quietus/tree.tree).seek -/
def P280 : Pl := (.n none .z (.n none .z (.n none (.n none .z (.n none (.n (some [5, 1, 0]) (.n none (.n none (.r [[20, 15, 5, 1, 0]]) .z) (.n none (.n none .z (.n none .z (.n none .z (.n (some [7, 5, 1, 0]) .z .z)))) .z)) .z) .z)) .z)))
def S280 (c : CV) (a0 a1 : AV) (h : AH) : R :=
pNil a0 fun v0 =>
pFieldA v0 2 fun v1 =>
pStore h v1 .nils 1 fun h2 =>
pCall c (.fn 288 [] []) [a0] h2 fun v3 h4 =>
loopC (σ := AV × AV × AV × Unit) NN (fun i8 s5 h6 d7 =>
pInt .neq s5.1 (.int .i64 (.ofNat 0)) fun v9 =>
joinC (α := AV × AV × AV × AV × AV × Unit → AH → R) (fun s10 h11 =>
pPick s10.2.1 s10.1 (.bool false) fun v13 =>
pCond v13 (
pNil s10.2.2.2.2.1 fun v14 =>
pFieldA v14 0 fun v15 =>
pLoad1 h11 v15 fun v16 =>
pInt .add s10.2.2.1 (.int .i64 (.ofNat 0)) fun v17 =>
pCall c (.fn 265 [] []) [v16, v17] h11 fun v18 h19 =>
pInt .eql v18 s10.2.2.2.1 fun v20 =>
pCond v20 (
pLeave d7 h19 fun h21 =>
some (s10.2.2.1, h21)) (
joinC (α := AV × AV × AV × AV × Unit → AH → List Nat → R) (fun s22 h23 d24 =>
pNil s22.2.2.2.1 fun v26 =>
pFieldA v26 2 fun v27 =>
pLoad1 h23 v27 fun v28 =>
pBuild [(.int .i64 (.ofNat 0)), (.int .i64 (.ofNat 0))] [(0, 1, s22.2.1), (1, 1, s22.1)] fun v29 =>
pBuildS h23 349 [(.int .i64 (.ofNat 0)), (.int .i64 (.ofNat 0))] 1 [(0, 2, v29)] fun v30 h31 =>
pAppend h31 349 2 v28 v30 fun v32 h33 =>
pNil s22.2.2.2.1 fun v34 =>
pFieldA v34 2 fun v35 =>
pStore h33 v35 v32 1 fun h36 =>
pCall c (.fn 320 [] []) [s22.2.2.2.1, s22.2.1, s22.1] h36 fun v37 h38 =>
i8 (v37, s22.2.2.1, s22.2.2.2.1, ()) h38 d24) fun j25 =>
pInt .gtr s10.2.2.2.1 v18 fun v39 =>
pCond v39 (
j25 ((.int .i64 (.ofNat 1)), s10.2.2.1, s10.2.2.2.1, s10.2.2.2.2.1, ()) h19 d7) (
j25 ((.int .i64 (.ofNat 0)), s10.2.2.1, s10.2.2.2.1, s10.2.2.2.2.1, ()) h19 d7))) (
pLeave d7 h11 fun h40 =>
some ((.int .i64 (.ofNat 0)), h40))) fun j12 =>
pWant v9 true (
pNil s5.2.2.1 fun v41 =>
pFieldA v41 0 fun v42 =>
pLoad1 h6 v42 fun v43 =>
pCall c (.fn 312 [] []) [v43] h6 fun v44 h45 =>
j12 (v44, v9, s5.1, s5.2.1, s5.2.2.1, ()) h45) (
j12 (.undef, v9, s5.1, s5.2.1, s5.2.2.1, ()) h6)) (v3, a1, a0, ()) h4 []
theorem S280_eq (c : CV) (a0 a1 : AV) (h : AH) : enterK Tryz.prog NN P280 c 280 [a0, a1] h = S280 c a0 a1 h := by kernel_rfl
def W280 (c : CV) (l : List AV) (h : AH) : R := match l with | [a0, a1] => S280 c a0 a1 h | _ => none
theorem W280_ok : WOk Tryz.prog 280 W280 := by
  intro c l h r e
  unfold W280 at e
  split at e
  · exact ⟨P280, by rw [S280_eq]; exact e⟩
  · cases e
/- (*quietus/tree.tree).link -/
def P281 : Pl := .z
def S281 (c : CV) (a0 a1 a2 : AV) (h : AH) : R :=
pInt .eql a1 (.int .i64 (.ofNat 0)) fun v0 =>
pCond v0 (
pNil a0 fun v1 =>
pFieldA v1 0 fun v2 =>
pLoad1 h v2 fun v3 =>
pNil a0 fun v4 =>
pFieldA v4 1 fun v5 =>
pLoad1 h v5 fun v6 =>
pCall c (.fn 263 [] []) [v3, v6, a2] h fun _ h8 =>
some ((.tup []), h8)) (
pNil a0 fun v9 =>
pFieldA v9 2 fun v10 =>
pLoad1 h v10 fun v11 =>
pInt .sub a1 (.int .i64 (.ofNat 1)) fun v12 =>
pIdxS v11 v12 2 fun v13 =>
pFieldA v13 0 fun v14 =>
pLoad1 h v14 fun v15 =>
pNil a0 fun v16 =>
pFieldA v16 2 fun v17 =>
pLoad1 h v17 fun v18 =>
pInt .sub a1 (.int .i64 (.ofNat 1)) fun v19 =>
pIdxS v18 v19 2 fun v20 =>
pFieldA v20 1 fun v21 =>
pLoad1 h v21 fun v22 =>
pCall c (.fn 321 [] []) [a0, v15, v22, a2] h fun _ h24 =>
some ((.tup []), h24))
theorem S281_eq (c : CV) (a0 a1 a2 : AV) (h : AH) : enterK Tryz.prog NN P281 c 281 [a0, a1, a2] h = S281 c a0 a1 a2 h := by kernel_rfl
def W281 (c : CV) (l : List AV) (h : AH) : R := match l with | [a0, a1, a2] => S281 c a0 a1 a2 h | _ => none
theorem W281_ok : WOk Tryz.prog 281 W281 := by
  intro c l h r e
  unfold W281 at e
  split at e
  · exact ⟨P281, by rw [S281_eq]; exact e⟩
  · cases e
/- (*quietus/tree.tree).raised -/
def P282 : Pl := (.n none (.n none (.n (some [0]) (.n none (.n none (.r [[17, 12, 0]]) .z) (.n none (.n none .z (.n none (.r [[4, 3, 2, 0]]) .z)) .z)) .z) .z) (.n none (.r [[92, 87, 0]]) .z))
def S282 (c : CV) (a0 : AV) (h : AH) : R :=
loopC (σ := AV × Unit) NN (fun i3 s0 h1 d2 =>
pNil s0.1 fun v4 =>
pFieldA v4 2 fun v5 =>
pLoad1 h1 v5 fun v6 =>
pLenS v6 fun v7 =>
pInt .geq v7 (.int .i64 (.ofNat 2)) fun v8 =>
joinC (α := AV × AV × AV × Unit → AH → R) (fun s9 h10 =>
pPick s9.2.1 s9.1 (.bool false) fun v12 =>
pCond v12 (
pNil s9.2.2.1 fun v13 =>
pFieldA v13 2 fun v14 =>
pLoad1 h10 v14 fun v15 =>
pLenS v15 fun v16 =>
joinC (α := AV × AV × AV × AV × Unit → AH → R) (fun s17 h18 =>
pFieldA s17.2.1 0 fun v20 =>
pLoad1 h18 v20 fun v21 =>
pCall c (.fn 322 [] []) [s17.2.2.2.1, v21] h18 fun v22 h23 =>
pUn .not v22 fun v24 =>
pCond v24 (
pLeave d2 h23 fun h25 =>
some ((.tup []), h25)) (
pFieldA s17.1 0 fun v26 =>
pLoad1 h23 v26 fun v27 =>
pFieldA s17.1 1 fun v28 =>
pLoad1 h23 v28 fun v29 =>
pInt .sub (.int .i64 (.ofNat 1)) v29 fun v30 =>
pCall c (.fn 320 [] []) [s17.2.2.2.1, v27, v30] h23 fun v31 h32 =>
pCall c (.fn 322 [] []) [s17.2.2.2.1, v31] h32 fun v33 h34 =>
pUn .not v33 fun v35 =>
pCond v35 (
pLoadN h34 s17.2.1 2 fun v36 =>
pLoadN h34 s17.1 2 fun v37 =>
pCall c (.fn 323 [] []) [s17.2.2.2.1, v36, v37] h34 fun _ h39 =>
pLeave d2 h39 fun h40 =>
some ((.tup []), h40)) (
pFieldA s17.2.1 0 fun v41 =>
pLoad1 h34 v41 fun v42 =>
pCall c (.fn 324 [] []) [s17.2.2.2.1, v42, (.bool false)] h34 fun _ h44 =>
pCall c (.fn 324 [] []) [s17.2.2.2.1, v31, (.bool false)] h44 fun _ h46 =>
pFieldA s17.1 0 fun v47 =>
pLoad1 h46 v47 fun v48 =>
pCall c (.fn 324 [] []) [s17.2.2.2.1, v48, (.bool true)] h46 fun _ h50 =>
pNil s17.2.2.2.1 fun v51 =>
pFieldA v51 2 fun v52 =>
pLoad1 h50 v52 fun v53 =>
pInt .sub s17.2.2.1 (.int .i64 (.ofNat 2)) fun v54 =>
pSlice h50 349 2 v53 none (some v54) fun v55 =>
pNil s17.2.2.2.1 fun v56 =>
pFieldA v56 2 fun v57 =>
pStore h50 v57 v55 1 fun h58 =>
i3 (s17.2.2.2.1, ()) h58 d2))) fun j19 =>
pNil s9.2.2.1 fun v59 =>
pFieldA v59 2 fun v60 =>
pLoad1 h10 v60 fun v61 =>
pInt .sub v16 (.int .i64 (.ofNat 1)) fun v62 =>
pIdxS v61 v62 2 fun v63 =>
pLoadN h10 v63 2 fun v64 =>
pNil s9.2.2.1 fun v65 =>
pFieldA v65 2 fun v66 =>
pLoad1 h10 v66 fun v67 =>
pInt .sub v16 (.int .i64 (.ofNat 2)) fun v68 =>
pIdxS v67 v68 2 fun v69 =>
pLoadN h10 v69 2 fun v70 =>
pBox h10 349 (.agg [(.int .i64 (.ofNat 0)), (.int .i64 (.ofNat 0))]) fun v71 h72 =>
pBox h72 349 (.agg [(.int .i64 (.ofNat 0)), (.int .i64 (.ofNat 0))]) fun v73 h74 =>
pStore h74 v71 v64 2 fun h75 =>
pStore h75 v73 v70 2 fun h76 =>
pChk v69 (some 2) v70 h74 h75 h10.nx <|
pChk v66 none v67 h74 h75 h10.nx <|
j19 (v73, v71, v16, s9.2.2.1, ()) h76) (
pNil s9.2.2.1 fun v77 =>
pFieldA v77 2 fun v78 =>
pLoad1 h10 v78 fun v79 =>
pLenS v79 fun v80 =>
pInt .lss v80 (.int .i64 (.ofNat 2)) fun v81 =>
joinC (α := AV × AV × AV × Unit → AH → R) (fun s82 h83 =>
pPick s82.2.1 s82.1 (.bool false) fun v85 =>
pCond v85 (
pCall c (.fn 288 [] []) [s82.2.2.1] h83 fun v86 h87 =>
pCall c (.fn 324 [] []) [s82.2.2.1, v86, (.bool false)] h87 fun _ h89 =>
pLeave d2 h89 fun h90 =>
some ((.tup []), h90)) (
pLeave d2 h83 fun h91 =>
some ((.tup []), h91))) fun j84 =>
pWant v81 true (
pNil s9.2.2.1 fun v92 =>
pFieldA v92 0 fun v93 =>
pLoad1 h10 v93 fun v94 =>
pCall c (.fn 259 [] []) [v94] h10 fun v95 h96 =>
j84 (v95, v81, s9.2.2.1, ()) h96) (
j84 (.undef, v81, s9.2.2.1, ()) h10))) fun j11 =>
pWant v8 true (
pNil s0.1 fun v97 =>
pFieldA v97 0 fun v98 =>
pLoad1 h1 v98 fun v99 =>
pCall c (.fn 312 [] []) [v99] h1 fun v100 h101 =>
j11 (v100, v8, s0.1, ()) h101) (
j11 (.undef, v8, s0.1, ()) h1)) (a0, ()) h []
theorem S282_eq (c : CV) (a0 : AV) (h : AH) : enterK Tryz.prog NN P282 c 282 [a0] h = S282 c a0 h := by kernel_rfl
def W282 (c : CV) (l : List AV) (h : AH) : R := match l with | [a0] => S282 c a0 h | _ => none
theorem W282_ok : WOk Tryz.prog 282 W282 := by
  intro c l h r e
  unfold W282 at e
  split at e
  · exact ⟨P282, by rw [S282_eq]; exact e⟩
  · cases e
/- quietus/tree.Get$1 -/
def P283 : Pl := .z
def S283 (c : CV) (a0 a1 a2 a3 a4 : AV) (h : AH) : R :=
pLoad1 h a1 fun v0 =>
pBuild [.nilp, (.int .i64 (.ofNat 0)), .nils] [(0, 1, a0), (1, 1, v0)] fun v1 =>
pBox h 328 v1 fun v2 h3 =>
pLoad1 h3 a2 fun v4 =>
pCall c (.fn 280 [] []) [v2, v4] h3 fun v5 h6 =>
pInt .neq v5 (.int .i64 (.ofNat 0)) fun v7 =>
pCond v7 (
pInt .add v5 (.int .i64 (.ofNat 1)) fun v8 =>
pCall c (.fn 265 [] []) [a0, v8] h6 fun v9 h10 =>
pStore h10 a3 v9 1 fun h11 =>
pStore h11 a4 (.bool true) 1 fun h12 =>
some ((.tup []), h12)) (
some ((.tup []), h6))
theorem S283_eq (c : CV) (a0 a1 a2 a3 a4 : AV) (h : AH) : enterK Tryz.prog NN P283 c 283 [a0, a1, a2, a3, a4] h = S283 c a0 a1 a2 a3 a4 h := by kernel_rfl
def W283 (c : CV) (l : List AV) (h : AH) : R := match l with | [a0, a1, a2, a3, a4] => S283 c a0 a1 a2 a3 a4 h | _ => none
theorem W283_ok : WOk Tryz.prog 283 W283 := by
  intro c l h r e
  unfold W283 at e
  split at e
  · exact ⟨P283, by rw [S283_eq]; exact e⟩
  · cases e
/- quietus/tree.Del$1 -/
def P284 : Pl := (.n none .z (.n none .z (.n none (.r [[18, 16, 6, 5, 3]]) .z)))
def S284 (c : CV) (a0 a1 a2 a3 : AV) (h : AH) : R :=
pLoad1 h a1 fun v0 =>
pBuild [.nilp, (.int .i64 (.ofNat 0)), .nils] [(0, 1, a0), (1, 1, v0)] fun v1 =>
pBox h 328 v1 fun v2 h3 =>
pLoad1 h3 a2 fun v4 =>
pCall c (.fn 280 [] []) [v2, v4] h3 fun v5 h6 =>
pInt .neq v5 (.int .i64 (.ofNat 0)) fun v7 =>
joinC (α := AV × AV × AV × AV × AV × Unit → AH → R) (fun s8 h9 =>
pPick s8.2.1 s8.1 (.bool false) fun v11 =>
pCond v11 (
pCall c (.fn 285 [] []) [s8.2.2.2.1, s8.2.2.1] h9 fun _ h13 =>
pStore h13 s8.2.2.2.2.1 (.bool true) 1 fun h14 =>
some ((.tup []), h14)) (
some ((.tup []), h9))) fun j10 =>
pWant v7 true (
pCall c (.fn 259 [] []) [a0] h6 fun v15 h16 =>
j10 (v15, v7, v5, v2, a3, ()) h16) (
j10 (.undef, v7, v5, v2, a3, ()) h6)
theorem S284_eq (c : CV) (a0 a1 a2 a3 : AV) (h : AH) : enterK Tryz.prog NN P284 c 284 [a0, a1, a2, a3] h = S284 c a0 a1 a2 a3 h := by kernel_rfl
def W284 (c : CV) (l : List AV) (h : AH) : R := match l with | [a0, a1, a2, a3] => S284 c a0 a1 a2 a3 h | _ => none
theorem W284_ok : WOk Tryz.prog 284 W284 := by
  intro c l h r e
  unfold W284 at e
  split at e
  · exact ⟨P284, by rw [S284_eq]; exact e⟩
  · cases e
/- (*quietus/tree.tree).cut -/
def P285 : Pl := (.n (some [1, 0]) (.n none (.r [[15, 11, 1, 0]]) (.n none (.n none .z (.n none (.r [[4, 1, 0]]) (.n none (.r [[4, 0]]) .z))) .z)) (.n none .z (.n (some [5, 1, 0]) .z (.n none .z (.n none .z (.n none (.n (some [1, 0]) .z .z) .z))))))
def S285 (c : CV) (a0 a1 : AV) (h : AH) : R :=
joinC (α := AV × AV × Unit → AH → List Nat → R) (fun s0 h1 d2 =>
pCall c (.fn 320 [] []) [s0.2.1, s0.1, (.int .i64 (.ofNat 0))] h1 fun v4 h5 =>
joinC (α := AV × AV × AV × Unit → AH → List Nat → R) (fun s6 h7 d8 =>
pCall c (.fn 322 [] []) [s6.2.2.1, s6.2.1] h7 fun v10 h11 =>
pNil s6.2.2.1 fun v12 =>
pFieldA v12 2 fun v13 =>
pLoad1 h11 v13 fun v14 =>
pLenS v14 fun v15 =>
pCall c (.fn 281 [] []) [s6.2.2.1, v15, s6.1] h11 fun _ h17 =>
joinC (α := AV × AV × Unit → AH → List Nat → R) (fun s18 h19 d20 =>
pNil s18.2.1 fun v22 =>
pFieldA v22 0 fun v23 =>
pLoad1 h19 v23 fun v24 =>
pCall c (.fn 266 [] []) [v24, s18.1] h19 fun _ h26 =>
pLeave d20 h26 fun h27 =>
some ((.tup []), h27)) fun j21 =>
pCond v10 (
j21 (s6.2.1, s6.2.2.1, ()) h17 d8) (
pCall c (.fn 322 [] []) [s6.2.2.1, s6.1] h17 fun v28 h29 =>
pCond v28 (
pCall c (.fn 324 [] []) [s6.2.2.1, s6.1, (.bool false)] h29 fun _ h31 =>
j21 (s6.2.1, s6.2.2.1, ()) h31 d8) (
pCall c (.fn 326 [] []) [s6.2.2.1] h29 fun _ h33 =>
j21 (s6.2.1, s6.2.2.1, ()) h33 d8))) fun j9 =>
pInt .eql v4 (.int .i64 (.ofNat 0)) fun v34 =>
pCond v34 (
pCall c (.fn 320 [] []) [s0.2.1, s0.1, (.int .i64 (.ofNat 1))] h5 fun v35 h36 =>
j9 (v35, s0.1, s0.2.1, ()) h36 d2) (
j9 (v4, s0.1, s0.2.1, ()) h5 d2)) fun j3 =>
pCall c (.fn 320 [] []) [a0, a1, (.int .i64 (.ofNat 0))] h fun v37 h38 =>
pInt .neq v37 (.int .i64 (.ofNat 0)) fun v39 =>
joinC (α := AV × AV × AV × AV × Unit → AH → R) (fun s40 h41 =>
pPick s40.2.1 s40.1 (.bool false) fun v43 =>
pCond v43 (
pCall c (.fn 325 [] []) [s40.2.2.2.1, s40.2.2.1] h41 fun v44 h45 =>
joinC (α := AV × AV × AV × Unit → AH → R) (fun s46 h47 =>
joinC (α := AV × AV × Unit → AH → R) (fun s49 h50 =>
j3 (s49.1, s49.2.1, ()) h50 []) fun j51 =>
pNil s46.2.2.1 fun v52 =>
pFieldA v52 0 fun v53 =>
pLoad1 h47 v53 fun v54 =>
pInt .add s46.2.1 (.int .i64 (.ofNat 1)) fun v55 =>
pNil s46.2.2.1 fun v56 =>
pFieldA v56 0 fun v57 =>
pLoad1 h47 v57 fun v58 =>
pInt .add s46.1 (.int .i64 (.ofNat 1)) fun v59 =>
pCall c (.fn 265 [] []) [v58, v59] h47 fun v60 h61 =>
pCall c (.fn 262 [] []) [v54, v55, v60] h61 fun _ h63 =>
pChk v53 none v54 h47 h61 h47.nx <|
j51 (s46.1, s46.2.2.1, ()) h63) fun j48 =>
pNil s40.2.2.2.1 fun v64 =>
pFieldA v64 0 fun v65 =>
pLoad1 h45 v65 fun v66 =>
pInt .add s40.2.2.1 (.int .i64 (.ofNat 0)) fun v67 =>
pNil s40.2.2.2.1 fun v68 =>
pFieldA v68 0 fun v69 =>
pLoad1 h45 v69 fun v70 =>
pInt .add v44 (.int .i64 (.ofNat 0)) fun v71 =>
pCall c (.fn 265 [] []) [v70, v71] h45 fun v72 h73 =>
pCall c (.fn 262 [] []) [v66, v67, v72] h73 fun _ h75 =>
pChk v65 none v66 h45 h73 h45.nx <|
j48 (v44, s40.2.2.1, s40.2.2.2.1, ()) h75) (
j3 (s40.2.2.1, s40.2.2.2.1, ()) h41 [])) fun j42 =>
pWant v39 true (
pCall c (.fn 320 [] []) [a0, a1, (.int .i64 (.ofNat 1))] h38 fun v76 h77 =>
pInt .neq v76 (.int .i64 (.ofNat 0)) fun v78 =>
j42 (v78, v39, a1, a0, ()) h77) (
j42 (.undef, v39, a1, a0, ()) h38)
theorem S285_eq (c : CV) (a0 a1 : AV) (h : AH) : enterK Tryz.prog NN P285 c 285 [a0, a1] h = S285 c a0 a1 h := by kernel_rfl
def W285 (c : CV) (l : List AV) (h : AH) : R := match l with | [a0, a1] => S285 c a0 a1 h | _ => none
theorem W285_ok : WOk Tryz.prog 285 W285 := by
  intro c l h r e
  unfold W285 at e
  split at e
  · exact ⟨P285, by rw [S285_eq]; exact e⟩
  · cases e
/- quietus/tree.Range$1 -/
def P286 : Pl := (.n none .z (.r [[]]))
def S286 (c : CV) (a0 a1 a2 a3 a4 : AV) (h : AH) : R :=
pLoad1 h a1 fun v0 =>
pBuild [.nilp, (.int .i64 (.ofNat 0)), .nils] [(0, 1, a0), (1, 1, v0)] fun v1 =>
pBox h 328 v1 fun v2 h3 =>
joinC (α := Unit → AH → R) (fun _ h5 =>
some ((.tup []), h5)) fun j6 =>
pCall c (.fn 288 [] []) [v2] h3 fun v7 h8 =>
pLoad1 h8 a2 fun v9 =>
pLoad1 h8 a3 fun v10 =>
pCall c (.fn 287 [] []) [v2, v7, v9, v10, .nils] h8 fun v11 h12 =>
pStore h12 a4 v11 1 fun h13 =>
pChk a3 none v10 h3 h8 h3.nx <|
pChk a2 none v9 h3 h8 h3.nx <|
j6 (()) h13
theorem S286_eq (c : CV) (a0 a1 a2 a3 a4 : AV) (h : AH) : enterK Tryz.prog NN P286 c 286 [a0, a1, a2, a3, a4] h = S286 c a0 a1 a2 a3 a4 h := by kernel_rfl
def W286 (c : CV) (l : List AV) (h : AH) : R := match l with | [a0, a1, a2, a3, a4] => S286 c a0 a1 a2 a3 a4 h | _ => none
theorem W286_ok : WOk Tryz.prog 286 W286 := by
  intro c l h r e
  unfold W286 at e
  split at e
  · exact ⟨P286, by rw [S286_eq]; exact e⟩
  · cases e
/- (*quietus/tree.tree).between -/
def P287 : Pl := (.n none .z (.n none (.n none (.r [[20, 14, 4, 3, 2, 1, 0]]) .z) (.n none .z (.n (some [11, 4, 3, 2, 1, 0]) .z (.n (some [11, 4, 3, 2, 1, 0]) (.n none (.r [[47, 44, 11, 4, 3, 2, 1, 0]]) .z) (.n (some [4]) .z .z))))))
def S287 (c : CV) (a0 a1 a2 a3 a4 : AV) (h : AH) : R :=
pInt .eql a1 (.int .i64 (.ofNat 0)) fun v0 =>
joinC (α := AV × AV × AV × AV × AV × AV × AV × Unit → AH → R) (fun s1 h2 =>
pPick s1.2.1 (.bool true) s1.1 fun v4 =>
pCond v4 (
some (s1.2.2.1, h2)) (
pNil s1.2.2.2.2.2.2.1 fun v5 =>
pFieldA v5 0 fun v6 =>
pLoad1 h2 v6 fun v7 =>
pInt .add s1.2.2.2.2.2.1 (.int .i64 (.ofNat 0)) fun v8 =>
pCall c (.fn 265 [] []) [v7, v8] h2 fun v9 h10 =>
joinC (α := AV × AV × AV × AV × AV × AV × Unit → AH → List Nat → R) (fun s11 h12 d13 =>
joinC (α := AV × AV × AV × AV × AV × AV × Unit → AH → List Nat → R) (fun s15 h16 d17 =>
joinC (α := AV × Unit → AH → List Nat → R) (fun s19 h20 d21 =>
pLeave d21 h20 fun h23 =>
some (s19.1, h23)) fun j22 =>
pInt .lss s15.1 s15.2.2.1 fun v24 =>
pCond v24 (
pCall c (.fn 320 [] []) [s15.2.2.2.2.2.1, s15.2.2.2.2.1, (.int .i64 (.ofNat 1))] h16 fun v25 h26 =>
pCall c (.fn 287 [] []) [s15.2.2.2.2.2.1, v25, s15.2.2.2.1, s15.2.2.1, s15.2.1] h26 fun v27 h28 =>
j22 (v27, ()) h28 d17) (
j22 (s15.2.1, ()) h16 d17)) fun j18 =>
pInt .leq s11.2.2.2.1 s11.1 fun v29 =>
joinC (α := AV × AV × AV × AV × AV × AV × AV × AV × Unit → AH → R) (fun s30 h31 =>
pPick s30.2.1 s30.1 (.bool false) fun v33 =>
pCond v33 (
pNil s30.2.2.2.2.2.2.2.1 fun v34 =>
pFieldA v34 0 fun v35 =>
pLoad1 h31 v35 fun v36 =>
pInt .add s30.2.2.2.2.2.2.1 (.int .i64 (.ofNat 1)) fun v37 =>
pCall c (.fn 265 [] []) [v36, v37] h31 fun v38 h39 =>
pBuild [(.int .u64 (.ofNat 0)), (.int .u64 (.ofNat 0))] [(0, 1, s30.2.2.1), (1, 1, v38)] fun v40 =>
pBuildS h39 354 [(.int .u64 (.ofNat 0)), (.int .u64 (.ofNat 0))] 1 [(0, 2, v40)] fun v41 h42 =>
pAppend h42 354 2 s30.2.2.2.1 v41 fun v43 h44 =>
j18 (s30.2.2.1, v43, s30.2.2.2.2.1, s30.2.2.2.2.2.1, s30.2.2.2.2.2.2.1, s30.2.2.2.2.2.2.2.1, ()) h44 d13) (
j18 (s30.2.2.1, s30.2.2.2.1, s30.2.2.2.2.1, s30.2.2.2.2.2.1, s30.2.2.2.2.2.2.1, s30.2.2.2.2.2.2.2.1, ()) h31 d13)) fun j32 =>
pWant v29 true (
pInt .leq s11.1 s11.2.2.1 fun v45 =>
j32 (v45, v29, s11.1, s11.2.1, s11.2.2.1, s11.2.2.2.1, s11.2.2.2.2.1, s11.2.2.2.2.2.1, ()) h12) (
j32 (.undef, v29, s11.1, s11.2.1, s11.2.2.1, s11.2.2.2.1, s11.2.2.2.2.1, s11.2.2.2.2.2.1, ()) h12)) fun j14 =>
pInt .lss s1.2.2.2.2.1 v9 fun v46 =>
pCond v46 (
pCall c (.fn 320 [] []) [s1.2.2.2.2.2.2.1, s1.2.2.2.2.2.1, (.int .i64 (.ofNat 0))] h10 fun v47 h48 =>
pCall c (.fn 287 [] []) [s1.2.2.2.2.2.2.1, v47, s1.2.2.2.2.1, s1.2.2.2.1, s1.2.2.1] h48 fun v49 h50 =>
j14 (v9, v49, s1.2.2.2.1, s1.2.2.2.2.1, s1.2.2.2.2.2.1, s1.2.2.2.2.2.2.1, ()) h50 []) (
j14 (v9, s1.2.2.1, s1.2.2.2.1, s1.2.2.2.2.1, s1.2.2.2.2.2.1, s1.2.2.2.2.2.2.1, ()) h10 []))) fun j3 =>
pWant v0 false (
pNil a0 fun v51 =>
pFieldA v51 0 fun v52 =>
pLoad1 h v52 fun v53 =>
pCall c (.fn 312 [] []) [v53] h fun v54 h55 =>
pUn .not v54 fun v56 =>
j3 (v56, v0, a4, a3, a2, a1, a0, ()) h55) (
j3 (.undef, v0, a4, a3, a2, a1, a0, ()) h)
theorem S287_eq (c : CV) (a0 a1 a2 a3 a4 : AV) (h : AH) : enterK Tryz.prog NN P287 c 287 [a0, a1, a2, a3, a4] h = S287 c a0 a1 a2 a3 a4 h := by kernel_rfl
def W287 (c : CV) (l : List AV) (h : AH) : R := match l with | [a0, a1, a2, a3, a4] => S287 c a0 a1 a2 a3 a4 h | _ => none
theorem W287_ok : WOk Tryz.prog 287 W287 := by
  intro c l h r e
  unfold W287 at e
  split at e
  · exact ⟨P287, by rw [S287_eq]; exact e⟩
  · cases e
/- (*quietus/tree.tree).top -/
def P288 : Pl := .z
def S288 (c : CV) (a0 : AV) (h : AH) : R :=
pNil a0 fun v0 =>
pFieldA v0 0 fun v1 =>
pLoad1 h v1 fun v2 =>
pNil a0 fun v3 =>
pFieldA v3 1 fun v4 =>
pLoad1 h v4 fun v5 =>
pCall c (.fn 313 [] []) [v2, v5] h fun v6 h7 =>
some (v6, h7)
theorem S288_eq (c : CV) (a0 : AV) (h : AH) : enterK Tryz.prog NN P288 c 288 [a0] h = S288 c a0 h := by kernel_rfl
def W288 (c : CV) (l : List AV) (h : AH) : R := match l with | [a0] => S288 c a0 h | _ => none
theorem W288_ok : WOk Tryz.prog 288 W288 := by
  intro c l h r e
  unfold W288 at e
  split at e
  · exact ⟨P288, by rw [S288_eq]; exact e⟩
  · cases e
/- quietus/arena.Class -/
def P289 : Pl := (.n none .z (.n none .z (.n none (.n none .z (.n none (.n (some [3, 0]) .z .z) .z)) .z)))
def S289 (c : CV) (a0 : AV) (h : AH) : R :=
pInt .lss a0 (.int .i64 (.ofNat 1)) fun v0 =>
pCond v0 (
some ((.int .i64 (.ofNat 0)), h)) (
loopC (σ := AV × AV × Unit) NN (fun i4 s1 h2 d3 =>
pInt .leq s1.1 (.int .i64 (.ofNat 4)) fun v5 =>
pCond v5 (
pCall c (.fn 327 [] []) [s1.1] h2 fun v6 h7 =>
pInt .geq v6 s1.2.1 fun v8 =>
pCond v8 (
pLeave d3 h7 fun h9 =>
some (s1.1, h9)) (
pInt .add s1.1 (.int .i64 (.ofNat 1)) fun v10 =>
i4 (v10, s1.2.1, ()) h7 d3)) (
pLeave d3 h2 fun h11 =>
some ((.int .i64 (.ofNat 0)), h11))) ((.int .i64 (.ofNat 1)), a0, ()) h [])
theorem S289_eq (c : CV) (a0 : AV) (h : AH) : enterK Tryz.prog NN P289 c 289 [a0] h = S289 c a0 h := by kernel_rfl
def W289 (c : CV) (l : List AV) (h : AH) : R := match l with | [a0] => S289 c a0 h | _ => none
theorem W289_ok : WOk Tryz.prog 289 W289 := by
  intro c l h r e
  unfold W289 at e
  split at e
  · exact ⟨P289, by rw [S289_eq]; exact e⟩
  · cases e
/- quietus/arena.again -/
def P290 : Pl := (.n none .z (.n none .z (.n none .z (.n none .z (.n (some [10, 8]) .z .z)))))
def S290 (c : CV) (a0 a1 a2 : AV) (h : AH) : R :=
pInt .geq a2 (.int .u64 (.ofNat 2147483648)) fun v0 =>
pCond v0 (
some ((.tup [(.int .i64 (.ofNat 0)), (.int .i64 (.ofNat 2))]), h)) (
pConvI .i64 a2 fun v1 =>
pCall c (.fn 159 [] []) [a0, v1] h fun v2 h3 =>
pExtract v2 0 fun v4 =>
pExtract v2 1 fun v5 =>
joinC (α := AV × AV × Unit → AH → List Nat → R) (fun s6 h7 d8 =>
pInt .neq s6.1 (.int .i64 (.ofNat 0)) fun v10 =>
pCond v10 (
pLeave d8 h7 fun h11 =>
some ((.tup [(.int .i64 (.ofNat 0)), s6.1]), h11)) (
pLeave d8 h7 fun h12 =>
some ((.tup [s6.2.1, (.int .i64 (.ofNat 0))]), h12))) fun j9 =>
pInt .eql v5 (.int .i64 (.ofNat 0)) fun v13 =>
pCond v13 (
pCall c (.fn 160 [] []) [a1] h3 fun v14 h15 =>
pBuild [(.int .i64 (.ofNat 0)), (.int .u64 (.ofNat 0))] [(0, 1, v14), (1, 1, v4)] fun v16 =>
pInt .sub v1 (.int .i64 (.ofNat 1)) fun v17 =>
pInt .add a1 (.int .i64 (.ofNat 8)) fun v18 =>
pConvI .u64 v18 fun v19 =>
pBuild [(.int .i64 (.ofNat 0)), (.int .u64 (.ofNat 0))] [(0, 1, v17), (1, 1, v19)] fun v20 =>
pBuildS h15 158 [(.int .i64 (.ofNat 0)), (.int .u64 (.ofNat 0))] 2 [(0, 2, v16), (2, 2, v20)] fun v21 h22 =>
pCall c (.fn 161 [] []) [a0, v21] h22 fun v23 h24 =>
j9 (v23, v1, ()) h24 []) (
j9 (v5, v1, ()) h3 []))
theorem S290_eq (c : CV) (a0 a1 a2 : AV) (h : AH) : enterK Tryz.prog NN P290 c 290 [a0, a1, a2] h = S290 c a0 a1 a2 h := by kernel_rfl
def W290 (c : CV) (l : List AV) (h : AH) : R := match l with | [a0, a1, a2] => S290 c a0 a1 a2 h | _ => none
theorem W290_ok : WOk Tryz.prog 290 W290 := by
  intro c l h r e
  unfold W290 at e
  split at e
  · exact ⟨P290, by rw [S290_eq]; exact e⟩
  · cases e
/- quietus/arena.grown -/
def P291 : Pl := (.n none .z (.n none .z (.n none .z (.n none (.n none (.r [[22, 20, 6, 1, 0], [33, 24, 6, 1, 0]]) .z) .z))))
def S291 (c : CV) (a0 a1 : AV) (h : AH) : R :=
pCall c (.fn 159 [] []) [a0, (.int .i64 (.ofNat 5))] h fun v0 h1 =>
pExtract v0 0 fun v2 =>
pExtract v0 1 fun v3 =>
pInt .neq v3 (.int .i64 (.ofNat 0)) fun v4 =>
pCond v4 (
some ((.tup [(.int .i64 (.ofNat 0)), v3]), h1)) (
pInt .lss v2 (.int .u64 (.ofNat 14)) fun v5 =>
joinC (α := AV × AV × AV × AV × AV × Unit → AH → R) (fun s6 h7 =>
pPick s6.2.1 (.bool true) s6.1 fun v9 =>
joinC (α := AV × AV × AV × AV × AV × Unit → AH → R) (fun s10 h11 =>
pPick s10.2.1 (.bool true) s10.1 fun v13 =>
pCond v13 (
some ((.tup [(.int .i64 (.ofNat 0)), (.int .i64 (.ofNat 4))]), h11)) (
pConvI .i64 s10.2.2.1 fun v14 =>
pInt .add v14 (.int .i64 (.ofNat 1)) fun v15 =>
pCall c (.fn 327 [] []) [s10.2.2.2.1] h11 fun v16 h17 =>
pInt .add v15 v16 fun v18 =>
pConvI .u64 v18 fun v19 =>
pBuild [(.int .i64 (.ofNat 0)), (.int .u64 (.ofNat 0))] [(0, 1, (.int .i64 (.ofNat 5))), (1, 1, v19)] fun v20 =>
pInt .add s10.2.2.2.1 (.int .i64 (.ofNat 8)) fun v21 =>
pConvI .u64 v21 fun v22 =>
pBuild [(.int .i64 (.ofNat 0)), (.int .u64 (.ofNat 0))] [(0, 1, v14), (1, 1, v22)] fun v23 =>
pBuildS h17 158 [(.int .i64 (.ofNat 0)), (.int .u64 (.ofNat 0))] 2 [(0, 2, v20), (2, 2, v23)] fun v24 h25 =>
pCall c (.fn 161 [] []) [s10.2.2.2.2.1, v24] h25 fun v26 h27 =>
pInt .neq v26 (.int .i64 (.ofNat 0)) fun v28 =>
pCond v28 (
some ((.tup [(.int .i64 (.ofNat 0)), v26]), h27)) (
pInt .add v14 (.int .i64 (.ofNat 1)) fun v29 =>
some ((.tup [v29, (.int .i64 (.ofNat 0))]), h27)))) fun j12 =>
pWant v9 false (
pConvI .i64 s6.2.2.1 fun v30 =>
pInt .add v30 (.int .i64 (.ofNat 1)) fun v31 =>
pCall c (.fn 327 [] []) [s6.2.2.2.1] h7 fun v32 h33 =>
pInt .add v31 v32 fun v34 =>
pCall c (.fn 190 [] []) [s6.2.2.2.2.1] h33 fun v35 h36 =>
pInt .gtr v34 v35 fun v37 =>
j12 (v37, v9, s6.2.2.1, s6.2.2.2.1, s6.2.2.2.2.1, ()) h36) (
j12 (.undef, v9, s6.2.2.1, s6.2.2.2.1, s6.2.2.2.2.1, ()) h7)) fun j8 =>
pWant v5 false (
pInt .geq v2 (.int .u64 (.ofNat 2147483648)) fun v38 =>
j8 (v38, v5, v2, a1, a0, ()) h1) (
j8 (.undef, v5, v2, a1, a0, ()) h1))
theorem S291_eq (c : CV) (a0 a1 : AV) (h : AH) : enterK Tryz.prog NN P291 c 291 [a0, a1] h = S291 c a0 a1 h := by kernel_rfl
def W291 (c : CV) (l : List AV) (h : AH) : R := match l with | [a0, a1] => S291 c a0 a1 h | _ => none
theorem W291_ok : WOk Tryz.prog 291 W291 := by
  intro c l h r e
  unfold W291 at e
  split at e
  · exact ⟨P291, by rw [S291_eq]; exact e⟩
  · cases e
/- (*quietus/view.View).Free -/
def P292 : Pl := .z
def S292 (c : CV) (a0 a1 : AV) (h : AH) : R :=
pNil a0 fun v0 =>
pFieldA v0 2 fun v1 =>
pLoad1 h v1 fun v2 =>
pCall c (.fn 328 [] []) [v2, a1] h fun _ h4 =>
some ((.tup []), h4)
theorem S292_eq (c : CV) (a0 a1 : AV) (h : AH) : enterK Tryz.prog NN P292 c 292 [a0, a1] h = S292 c a0 a1 h := by kernel_rfl
def W292 (c : CV) (l : List AV) (h : AH) : R := match l with | [a0, a1] => S292 c a0 a1 h | _ => none
theorem W292_ok : WOk Tryz.prog 292 W292 := by
  intro c l h r e
  unfold W292 at e
  split at e
  · exact ⟨P292, by rw [S292_eq]; exact e⟩
  · cases e
/- (*quietus/view.View).Open -/
def P293 : Pl := .z
def S293 (c : CV) (a0 : AV) (h : AH) : R :=
pNil a0 fun v0 =>
pFieldA v0 2 fun v1 =>
pLoad1 h v1 fun v2 =>
pCall c (.fn 329 [] []) [v2] h fun v3 h4 =>
some (v3, h4)
theorem S293_eq (c : CV) (a0 : AV) (h : AH) : enterK Tryz.prog NN P293 c 293 [a0] h = S293 c a0 h := by kernel_rfl
def W293 (c : CV) (l : List AV) (h : AH) : R := match l with | [a0] => S293 c a0 h | _ => none
theorem W293_ok : WOk Tryz.prog 293 W293 := by
  intro c l h r e
  unfold W293 at e
  split at e
  · exact ⟨P293, by rw [S293_eq]; exact e⟩
  · cases e
/- (*quietus/slate.Slate).Len -/
def P294 : Pl := .z
def S294 (_ : CV) (a0 : AV) (h : AH) : R :=
pNil a0 fun v0 =>
pFieldA v0 0 fun v1 =>
pLoad1 h v1 fun v2 =>
pLenS v2 fun v3 =>
some (v3, h)
theorem S294_eq (c : CV) (a0 : AV) (h : AH) : enterK Tryz.prog NN P294 c 294 [a0] h = S294 c a0 h := by kernel_rfl
def W294 (c : CV) (l : List AV) (h : AH) : R := match l with | [a0] => S294 c a0 h | _ => none
theorem W294_ok : WOk Tryz.prog 294 W294 := by
  intro c l h r e
  unfold W294 at e
  split at e
  · exact ⟨P294, by rw [S294_eq]; exact e⟩
  · cases e
/- (*quietus/levels.Levels).Keep -/
def P295 : Pl := (.n none .z (.n none .z (.n none .z (.n none .z (.n none .z (.n none (.r [[2]]) .z))))))
def S295 (c : CV) (a0 : AV) (h : AH) : R :=
pCall c (.fn 232 [] []) [a0] h fun v0 h1 =>
pCall c (.fn 297 [] []) [a0] h1 fun v2 h3 =>
pInt .neq v2 (.int .i64 (.ofNat 0)) fun v4 =>
pCond v4 (
some (v2, h3)) (
pCall c (.fn 232 [] []) [a0] h3 fun v5 h6 =>
pNil v5 fun v7 =>
pFieldA v7 1 fun v8 =>
pLoad1 h6 v8 fun v9 =>
pNil v0 fun v10 =>
pFieldA v10 1 fun v11 =>
pLoad1 h6 v11 fun v12 =>
pAppend h6 3 1 v9 v12 fun v13 h14 =>
pNil v5 fun v15 =>
pFieldA v15 1 fun v16 =>
pStore h14 v16 v13 1 fun h17 =>
joinC (α := AV × Unit → AH → R) (fun s18 h19 =>
some (s18.1, h19)) fun j20 =>
pNil v5 fun v21 =>
pFieldA v21 0 fun v22 =>
pLoad1 h17 v22 fun v23 =>
pNil v0 fun v24 =>
pFieldA v24 0 fun v25 =>
pLoad1 h17 v25 fun v26 =>
pCall c (.fn 165 [] []) [v26] h17 fun v27 h28 =>
pCall c (.fn 164 [] []) [v23, v27] h28 fun v29 h30 =>
pChk v22 none v23 h17 h28 h17.nx <|
j20 (v29, ()) h30)
theorem S295_eq (c : CV) (a0 : AV) (h : AH) : enterK Tryz.prog NN P295 c 295 [a0] h = S295 c a0 h := by kernel_rfl
def W295 (c : CV) (l : List AV) (h : AH) : R := match l with | [a0] => S295 c a0 h | _ => none
theorem W295_ok : WOk Tryz.prog 295 W295 := by
  intro c l h r e
  unfold W295 at e
  split at e
  · exact ⟨P295, by rw [S295_eq]; exact e⟩
  · cases e
/- (*quietus/slate.Slate).Cut -/
def P296 : Pl := .z
def S296 (c : CV) (a0 a1 : AV) (h : AH) : R :=
pNil a0 fun v0 =>
pFieldA v0 0 fun v1 =>
pLoad1 h v1 fun v2 =>
pNil a0 fun v3 =>
pFieldA v3 0 fun v4 =>
pLoad1 h v4 fun v5 =>
pLenS v5 fun v6 =>
pMM false [a1, v6] fun v7 =>
pMM true [(.int .i64 (.ofNat 0)), v7] fun v8 =>
pSlice h 20 1 v2 none (some v8) fun v9 =>
pCall c (.fn 175 [] []) [v9] h fun v10 h11 =>
pNil a0 fun v12 =>
pFieldA v12 0 fun v13 =>
pStore h11 v13 v10 1 fun h14 =>
some ((.tup []), h14)
theorem S296_eq (c : CV) (a0 a1 : AV) (h : AH) : enterK Tryz.prog NN P296 c 296 [a0, a1] h = S296 c a0 a1 h := by kernel_rfl
def W296 (c : CV) (l : List AV) (h : AH) : R := match l with | [a0, a1] => S296 c a0 a1 h | _ => none
theorem W296_ok : WOk Tryz.prog 296 W296 := by
  intro c l h r e
  unfold W296 at e
  split at e
  · exact ⟨P296, by rw [S296_eq]; exact e⟩
  · cases e
/- (*quietus/levels.Levels).Drop -/
def P297 : Pl := .z
def S297 (_ : CV) (a0 : AV) (h : AH) : R :=
pNil a0 fun v0 =>
pFieldA v0 1 fun v1 =>
pLoad1 h v1 fun v2 =>
pLenS v2 fun v3 =>
pInt .eql v3 (.int .i64 (.ofNat 1)) fun v4 =>
pCond v4 (
some ((.int .i64 (.ofNat 10)), h)) (
pNil a0 fun v5 =>
pFieldA v5 1 fun v6 =>
pLoad1 h v6 fun v7 =>
pNil a0 fun v8 =>
pFieldA v8 1 fun v9 =>
pLoad1 h v9 fun v10 =>
pLenS v10 fun v11 =>
pInt .sub v11 (.int .i64 (.ofNat 1)) fun v12 =>
pSlice h 227 1 v7 none (some v12) fun v13 =>
pNil a0 fun v14 =>
pFieldA v14 1 fun v15 =>
pStore h v15 v13 1 fun h16 =>
some ((.int .i64 (.ofNat 0)), h16))
theorem S297_eq (c : CV) (a0 : AV) (h : AH) : enterK Tryz.prog NN P297 c 297 [a0] h = S297 c a0 h := by kernel_rfl
def W297 (c : CV) (l : List AV) (h : AH) : R := match l with | [a0] => S297 c a0 h | _ => none
theorem W297_ok : WOk Tryz.prog 297 W297 := by
  intro c l h r e
  unfold W297 at e
  split at e
  · exact ⟨P297, by rw [S297_eq]; exact e⟩
  · cases e
/- (*quietus/levels.Levels).Room -/
def P298 : Pl := (.n none .z (.n none .z (.n none (.n none .z (.n none (.n (some [15, 14, 13, 3]) .z .z) .z)) .z)))
def S298 (c : CV) (a0 : AV) (h : AH) : R :=
pNil a0 fun v0 =>
pFieldA v0 0 fun v1 =>
pLoad1 h v1 fun v2 =>
pNil a0 fun v3 =>
pFieldA v3 1 fun v4 =>
pLoad1 h v4 fun v5 =>
pLenS v5 fun v6 =>
loopC (σ := AV × AV × AV × AV × Unit) NN (fun i10 s7 h8 d9 =>
pInt .lss s7.1 s7.2.1 fun v11 =>
pCond v11 (
pIdxS s7.2.2.1 s7.1 1 fun v12 =>
pLoad1 h8 v12 fun v13 =>
pNil v13 fun v14 =>
pFieldA v14 0 fun v15 =>
pLoad1 h8 v15 fun v16 =>
pCall c (.fn 330 [] []) [v16] h8 fun v17 h18 =>
pInt .sub s7.2.2.2.1 v17 fun v19 =>
pInt .add s7.1 (.int .i64 (.ofNat 1)) fun v20 =>
i10 (v20, s7.2.1, s7.2.2.1, v19, ()) h18 d9) (
pLeave d9 h8 fun h21 =>
some (s7.2.2.2.1, h21))) ((.int .i64 (.ofNat 0)), v6, v5, v2, ()) h []
theorem S298_eq (c : CV) (a0 : AV) (h : AH) : enterK Tryz.prog NN P298 c 298 [a0] h = S298 c a0 h := by kernel_rfl
def W298 (c : CV) (l : List AV) (h : AH) : R := match l with | [a0] => S298 c a0 h | _ => none
theorem W298_ok : WOk Tryz.prog 298 W298 := by
  intro c l h r e
  unfold W298 at e
  split at e
  · exact ⟨P298, by rw [S298_eq]; exact e⟩
  · cases e
/- slices.IndexFunc[[]quietus/api.Cell,quietus/api.Cell] -/
def P299 : Pl := (.n none .z (.n none (.n none .z (.n none (.n (some [8, 7, 1, 0]) .z .z) .z)) .z))
def S299 (c : CV) (a0 a1 : AV) (h : AH) : R :=
pLenS a0 fun v0 =>
loopC (σ := AV × AV × AV × AV × Unit) NN (fun i4 s1 h2 d3 =>
pInt .lss s1.1 s1.2.1 fun v5 =>
pCond v5 (
pIdxS s1.2.2.2.1 s1.1 2 fun v6 =>
pLoadN h2 v6 2 fun v7 =>
pCall c s1.2.2.1 [v7] h2 fun v8 h9 =>
pCond v8 (
pLeave d3 h9 fun h10 =>
some (s1.1, h10)) (
pInt .add s1.1 (.int .i64 (.ofNat 1)) fun v11 =>
i4 (v11, s1.2.1, s1.2.2.1, s1.2.2.2.1, ()) h9 d3)) (
pLeave d3 h2 fun h12 =>
some ((.int .i64 (.negSucc 0)), h12))) ((.int .i64 (.ofNat 0)), v0, a1, a0, ()) h []
theorem S299_eq (c : CV) (a0 a1 : AV) (h : AH) : enterK Tryz.prog NN P299 c 299 [a0, a1] h = S299 c a0 a1 h := by kernel_rfl
def W299 (c : CV) (l : List AV) (h : AH) : R := match l with | [a0, a1] => S299 c a0 a1 h | _ => none
theorem W299_ok : WOk Tryz.prog 299 W299 := by
  intro c l h r e
  unfold W299 at e
  split at e
  · exact ⟨P299, by rw [S299_eq]; exact e⟩
  · cases e
/- (*quietus/writes.Writes).find$1 -/
def P300 : Pl := .z
def S300 (_ : CV) (a0 a1 : AV) (h : AH) : R :=
pBox h 158 a0 fun v0 h1 =>
pFieldA v0 0 fun v2 =>
pLoad1 h1 v2 fun v3 =>
pLoad1 h1 a1 fun v4 =>
pInt .eql v3 v4 fun v5 =>
some (v5, h1)
theorem S300_eq (c : CV) (a0 a1 : AV) (h : AH) : enterK Tryz.prog NN P300 c 300 [a0, a1] h = S300 c a0 a1 h := by kernel_rfl
def W300 (c : CV) (l : List AV) (h : AH) : R := match l with | [a0, a1] => S300 c a0 a1 h | _ => none
theorem W300_ok : WOk Tryz.prog 300 W300 := by
  intro c l h r e
  unfold W300 at e
  split at e
  · exact ⟨P300, by rw [S300_eq]; exact e⟩
  · cases e
/- slices.siftDownOrdered[int] -/
def P301 : Pl := (.n none .z (.n none (.n (some [8, 3, 2, 0]) (.n none (.n none .z (.n none .z (.n (some [9, 8, 3, 2, 0]) (.n none (.r [[35, 21, 9, 8, 3, 2, 0]]) .z) .z))) .z) .z) .z))
def S301 (c : CV) (a0 a1 a2 a3 : AV) (h : AH) : R :=
loopC (σ := AV × AV × AV × AV × Unit) NN (fun i3 s0 h1 d2 =>
pInt .mul (.int .i64 (.ofNat 2)) s0.1 fun v4 =>
pInt .add v4 (.int .i64 (.ofNat 1)) fun v5 =>
pInt .geq v5 s0.2.2.1 fun v6 =>
pCond v6 (
pLeave d2 h1 fun h7 =>
some ((.tup []), h7)) (
joinC (α := AV × AV × AV × AV × AV × Unit → AH → List Nat → R) (fun s8 h9 d10 =>
pInt .add s8.2.2.1 s8.2.1 fun v12 =>
pIdxS s8.2.2.2.2.1 v12 1 fun v13 =>
pLoad1 h9 v13 fun v14 =>
pInt .add s8.2.2.1 s8.1 fun v15 =>
pIdxS s8.2.2.2.2.1 v15 1 fun v16 =>
pLoad1 h9 v16 fun v17 =>
pCall c (.fn 241 [] []) [v14, v17] h9 fun v18 h19 =>
pUn .not v18 fun v20 =>
pCond v20 (
pLeave d10 h19 fun h21 =>
some ((.tup []), h21)) (
pInt .add s8.2.2.1 s8.2.1 fun v22 =>
pInt .add s8.2.2.1 s8.1 fun v23 =>
pInt .add s8.2.2.1 s8.1 fun v24 =>
pIdxS s8.2.2.2.2.1 v24 1 fun v25 =>
pLoad1 h19 v25 fun v26 =>
pInt .add s8.2.2.1 s8.2.1 fun v27 =>
pIdxS s8.2.2.2.2.1 v27 1 fun v28 =>
pLoad1 h19 v28 fun v29 =>
pIdxS s8.2.2.2.2.1 v22 1 fun v30 =>
pStore h19 v30 v26 1 fun h31 =>
pIdxS s8.2.2.2.2.1 v23 1 fun v32 =>
pStore h31 v32 v29 1 fun h33 =>
i3 (s8.1, s8.2.2.1, s8.2.2.2.1, s8.2.2.2.2.1, ()) h33 d10)) fun j11 =>
pInt .add v5 (.int .i64 (.ofNat 1)) fun v34 =>
pInt .lss v34 s0.2.2.1 fun v35 =>
joinC (α := AV × AV × AV × AV × AV × AV × AV × Unit → AH → R) (fun s36 h37 =>
pPick s36.2.1 s36.1 (.bool false) fun v39 =>
pCond v39 (
pInt .add s36.2.2.1 (.int .i64 (.ofNat 1)) fun v40 =>
j11 (v40, s36.2.2.2.1, s36.2.2.2.2.1, s36.2.2.2.2.2.1, s36.2.2.2.2.2.2.1, ()) h37 d2) (
j11 (s36.2.2.1, s36.2.2.2.1, s36.2.2.2.2.1, s36.2.2.2.2.2.1, s36.2.2.2.2.2.2.1, ()) h37 d2)) fun j38 =>
pWant v35 true (
pInt .add s0.2.1 v5 fun v41 =>
pIdxS s0.2.2.2.1 v41 1 fun v42 =>
pLoad1 h1 v42 fun v43 =>
pInt .add s0.2.1 v5 fun v44 =>
pInt .add v44 (.int .i64 (.ofNat 1)) fun v45 =>
pIdxS s0.2.2.2.1 v45 1 fun v46 =>
pLoad1 h1 v46 fun v47 =>
pCall c (.fn 241 [] []) [v43, v47] h1 fun v48 h49 =>
j38 (v48, v35, v5, s0.1, s0.2.1, s0.2.2.1, s0.2.2.2.1, ()) h49) (
j38 (.undef, v35, v5, s0.1, s0.2.1, s0.2.2.1, s0.2.2.2.1, ()) h1))) (a1, a3, a2, a0, ()) h []
theorem S301_eq (c : CV) (a0 a1 a2 a3 : AV) (h : AH) : enterK Tryz.prog NN P301 c 301 [a0, a1, a2, a3] h = S301 c a0 a1 a2 a3 h := by kernel_rfl
def W301 (c : CV) (l : List AV) (h : AH) : R := match l with | [a0, a1, a2, a3] => S301 c a0 a1 a2 a3 h | _ => none
theorem W301_ok : WOk Tryz.prog 301 W301 := by
  intro c l h r e
  unfold W301 at e
  split at e
  · exact ⟨P301, by rw [S301_eq]; exact e⟩
  · cases e
/- slices.nextPowerOfTwo -/
def P302 : Pl := .z
def S302 (c : CV) (a0 : AV) (h : AH) : R :=
pConvI .u64 a0 fun v0 =>
pCall c (.fn 198 [] []) [v0] h fun v1 h2 =>
pShift .shl (.int .u64 (.ofNat 1)) v1 fun v3 =>
some (v3, h2)
theorem S302_eq (c : CV) (a0 : AV) (h : AH) : enterK Tryz.prog NN P302 c 302 [a0] h = S302 c a0 h := by kernel_rfl
def W302 (c : CV) (l : List AV) (h : AH) : R := match l with | [a0] => S302 c a0 h | _ => none
theorem W302_ok : WOk Tryz.prog 302 W302 := by
  intro c l h r e
  unfold W302 at e
  split at e
  · exact ⟨P302, by rw [S302_eq]; exact e⟩
  · cases e
/- (*slices.xorshift).Next -/
def P303 : Pl := .z
def S303 (_ : CV) (a0 : AV) (h : AH) : R :=
pNil a0 fun v0 =>
pLoad1 h v0 fun v1 =>
pNil a0 fun v2 =>
pLoad1 h v2 fun v3 =>
pShift .shl v3 (.int .u64 (.ofNat 13)) fun v4 =>
pInt .xor v1 v4 fun v5 =>
pNil a0 fun v6 =>
pStore h v6 v5 1 fun h7 =>
pNil a0 fun v8 =>
pLoad1 h7 v8 fun v9 =>
pNil a0 fun v10 =>
pLoad1 h7 v10 fun v11 =>
pShift .shr v11 (.int .u64 (.ofNat 7)) fun v12 =>
pInt .xor v9 v12 fun v13 =>
pNil a0 fun v14 =>
pStore h7 v14 v13 1 fun h15 =>
pNil a0 fun v16 =>
pLoad1 h15 v16 fun v17 =>
pNil a0 fun v18 =>
pLoad1 h15 v18 fun v19 =>
pShift .shl v19 (.int .u64 (.ofNat 17)) fun v20 =>
pInt .xor v17 v20 fun v21 =>
pNil a0 fun v22 =>
pStore h15 v22 v21 1 fun h23 =>
pNil a0 fun v24 =>
pLoad1 h23 v24 fun v25 =>
some (v25, h23)
theorem S303_eq (c : CV) (a0 : AV) (h : AH) : enterK Tryz.prog NN P303 c 303 [a0] h = S303 c a0 h := by kernel_rfl
def W303 (c : CV) (l : List AV) (h : AH) : R := match l with | [a0] => S303 c a0 h | _ => none
theorem W303_ok : WOk Tryz.prog 303 W303 := by
  intro c l h r e
  unfold W303 at e
  split at e
  · exact ⟨P303, by rw [S303_eq]; exact e⟩
  · cases e
/- slices.medianAdjacentOrdered[int] -/
def P304 : Pl := .z
def S304 (c : CV) (a0 a1 a2 : AV) (h : AH) : R :=
pInt .sub a1 (.int .i64 (.ofNat 1)) fun v0 =>
pInt .add a1 (.int .i64 (.ofNat 1)) fun v1 =>
pCall c (.fn 305 [] []) [a0, v0, a1, v1, a2] h fun v2 h3 =>
some (v2, h3)
theorem S304_eq (c : CV) (a0 a1 a2 : AV) (h : AH) : enterK Tryz.prog NN P304 c 304 [a0, a1, a2] h = S304 c a0 a1 a2 h := by kernel_rfl
def W304 (c : CV) (l : List AV) (h : AH) : R := match l with | [a0, a1, a2] => S304 c a0 a1 a2 h | _ => none
theorem W304_ok : WOk Tryz.prog 304 W304 := by
  intro c l h r e
  unfold W304 at e
  split at e
  · exact ⟨P304, by rw [S304_eq]; exact e⟩
  · cases e
/- slices.medianOrdered[int] -/
def P305 : Pl := .z
def S305 (c : CV) (a0 a1 a2 a3 a4 : AV) (h : AH) : R :=
pCall c (.fn 331 [] []) [a0, a1, a2, a4] h fun v0 h1 =>
pExtract v0 0 fun v2 =>
pExtract v0 1 fun v3 =>
pCall c (.fn 331 [] []) [a0, v3, a3, a4] h1 fun v4 h5 =>
pExtract v4 0 fun v6 =>
pExtract v4 1 fun _ =>
pCall c (.fn 331 [] []) [a0, v2, v6, a4] h5 fun v8 h9 =>
pExtract v8 0 fun _ =>
pExtract v8 1 fun v11 =>
some (v11, h9)
theorem S305_eq (c : CV) (a0 a1 a2 a3 a4 : AV) (h : AH) : enterK Tryz.prog NN P305 c 305 [a0, a1, a2, a3, a4] h = S305 c a0 a1 a2 a3 a4 h := by kernel_rfl
def W305 (c : CV) (l : List AV) (h : AH) : R := match l with | [a0, a1, a2, a3, a4] => S305 c a0 a1 a2 a3 a4 h | _ => none
theorem W305_ok : WOk Tryz.prog 305 W305 := by
  intro c l h r e
  unfold W305 at e
  split at e
  · exact ⟨P305, by rw [S305_eq]; exact e⟩
  · cases e
/- cmp.isNaN[int] -/
def P306 : Pl := .z
def S306 (_ : CV) (a0 : AV) (h : AH) : R :=
pInt .neq a0 a0 fun v0 =>
some (v0, h)
theorem S306_eq (c : CV) (a0 : AV) (h : AH) : enterK Tryz.prog NN P306 c 306 [a0] h = S306 c a0 h := by kernel_rfl
def W306 (c : CV) (l : List AV) (h : AH) : R := match l with | [a0] => S306 c a0 h | _ => none
theorem W306_ok : WOk Tryz.prog 306 W306 := by
  intro c l h r e
  unfold W306 at e
  split at e
  · exact ⟨P306, by rw [S306_eq]; exact e⟩
  · cases e
/- internal/strconv.log10Pow2 -/
def P307 : Pl := .z
def S307 (_ : CV) (a0 : AV) (h : AH) : R :=
pInt .mul a0 (.int .i64 (.ofNat 78913)) fun v0 =>
pShift .shr v0 (.int .u64 (.ofNat 18)) fun v1 =>
some (v1, h)
theorem S307_eq (c : CV) (a0 : AV) (h : AH) : enterK Tryz.prog NN P307 c 307 [a0] h = S307 c a0 h := by kernel_rfl
def W307 (c : CV) (l : List AV) (h : AH) : R := match l with | [a0] => S307 c a0 h | _ => none
theorem W307_ok : WOk Tryz.prog 307 W307 := by
  intro c l h r e
  unfold W307 at e
  split at e
  · exact ⟨P307, by rw [S307_eq]; exact e⟩
  · cases e
/- internal/strconv.bool2[int] -/
def P308 : Pl := .z
def S308 (_ : CV) (a0 : AV) (h : AH) : R :=
pCond a0 (
some ((.int .i64 (.ofNat 1)), h)) (
some ((.int .i64 (.ofNat 0)), h))
theorem S308_eq (c : CV) (a0 : AV) (h : AH) : enterK Tryz.prog NN P308 c 308 [a0] h = S308 c a0 h := by kernel_rfl
def W308 (c : CV) (l : List AV) (h : AH) : R := match l with | [a0] => S308 c a0 h | _ => none
theorem W308_ok : WOk Tryz.prog 308 W308 := by
  intro c l h r e
  unfold W308 at e
  split at e
  · exact ⟨P308, by rw [S308_eq]; exact e⟩
  · cases e
/- internal/strconv.isPowerOfTwo -/
def P309 : Pl := .z
def S309 (_ : CV) (a0 : AV) (h : AH) : R :=
pInt .sub a0 (.int .i64 (.ofNat 1)) fun v0 =>
pInt .and a0 v0 fun v1 =>
pInt .eql v1 (.int .i64 (.ofNat 0)) fun v2 =>
some (v2, h)
theorem S309_eq (c : CV) (a0 : AV) (h : AH) : enterK Tryz.prog NN P309 c 309 [a0] h = S309 c a0 h := by kernel_rfl
def W309 (c : CV) (l : List AV) (h : AH) : R := match l with | [a0] => S309 c a0 h | _ => none
theorem W309_ok : WOk Tryz.prog 309 W309 := by
  intro c l h r e
  unfold W309 at e
  split at e
  · exact ⟨P309, by rw [S309_eq]; exact e⟩
  · cases e
/- math/bits.TrailingZeros -/
def P310 : Pl := .z
def S310 (c : CV) (a0 : AV) (h : AH) : R :=
pCond (.bool false) (
pConvI .u32 a0 fun v0 =>
pCall c (.fn 332 [] []) [v0] h fun v1 h2 =>
some (v1, h2)) (
pCall c (.fn 333 [] []) [a0] h fun v3 h4 =>
some (v3, h4))
theorem S310_eq (c : CV) (a0 : AV) (h : AH) : enterK Tryz.prog NN P310 c 310 [a0] h = S310 c a0 h := by kernel_rfl
def W310 (c : CV) (l : List AV) (h : AH) : R := match l with | [a0] => S310 c a0 h | _ => none
theorem W310_ok : WOk Tryz.prog 310 W310 := by
  intro c l h r e
  unfold W310 at e
  split at e
  · exact ⟨P310, by rw [S310_eq]; exact e⟩
  · cases e
/- quietus/draft.of -/
def P311 : Pl := (.n none .z (.n none .z (.n none (.n none .z (.n none (.n (some [14, 13, 12, 3, 0]) .z .z) .z)) (.n none (.n none .z (.n none (.n (some [28, 27, 26, 3]) .z .z) .z)) .z))))
def S311 (c : CV) (a0 : AV) (h : AH) : R :=
pCall c (.fn 190 [] []) [a0] h fun v0 h1 =>
pCall c (.fn 125 [] []) [v0, (.int .i64 (.ofNat 96))] h1 fun v2 h3 =>
pCall c (.fn 110 [] []) [a0] h3 fun v4 h5 =>
pLenS v4 fun v6 =>
loopC (σ := AV × AV × AV × AV × AV × Unit) NN (fun i10 s7 h8 d9 =>
pInt .lss s7.1 s7.2.1 fun v11 =>
pCond v11 (
pIdxS s7.2.2.1 s7.1 2 fun v12 =>
pLoadN h8 v12 2 fun v13 =>
pBox h8 158 (.agg [(.int .i64 (.ofNat 0)), (.int .u64 (.ofNat 0))]) fun v14 h15 =>
pStore h15 v14 v13 2 fun h16 =>
pFieldA v14 0 fun v17 =>
pLoad1 h16 v17 fun v18 =>
pFieldA v14 1 fun v19 =>
pLoad1 h16 v19 fun v20 =>
pCall c (.fn 171 [] []) [s7.2.2.2.1, v18, v20] h16 fun _ h22 =>
pInt .add s7.1 (.int .i64 (.ofNat 1)) fun v23 =>
i10 (v23, s7.2.1, s7.2.2.1, s7.2.2.2.1, s7.2.2.2.2.1, ()) h22 d9) (
pCall c (.fn 123 [] []) [s7.2.2.2.2.1] h8 fun v24 h25 =>
pLenS v24 fun v26 =>
loopC (σ := AV × AV × AV × AV × Unit) NN (fun i30 s27 h28 d29 =>
pInt .lss s27.1 s27.2.1 fun v31 =>
pCond v31 (
pIdxS s27.2.2.1 s27.1 2 fun v32 =>
pLoadN h28 v32 2 fun v33 =>
pBox h28 158 (.agg [(.int .i64 (.ofNat 0)), (.int .u64 (.ofNat 0))]) fun v34 h35 =>
pStore h35 v34 v33 2 fun h36 =>
pFieldA v34 0 fun v37 =>
pLoad1 h36 v37 fun v38 =>
pFieldA v34 1 fun v39 =>
pLoad1 h36 v39 fun v40 =>
pCall c (.fn 171 [] []) [s27.2.2.2.1, v38, v40] h36 fun _ h42 =>
pInt .add s27.1 (.int .i64 (.ofNat 1)) fun v43 =>
i30 (v43, s27.2.1, s27.2.2.1, s27.2.2.2.1, ()) h42 d29) (
pLeave d29 h28 fun h44 =>
some (s27.2.2.2.1, h44))) ((.int .i64 (.ofNat 0)), v26, v24, s7.2.2.2.1, ()) h25 d9)) ((.int .i64 (.ofNat 0)), v6, v4, v2, a0, ()) h5 []
theorem S311_eq (c : CV) (a0 : AV) (h : AH) : enterK Tryz.prog NN P311 c 311 [a0] h = S311 c a0 h := by kernel_rfl
def W311 (c : CV) (l : List AV) (h : AH) : R := match l with | [a0] => S311 c a0 h | _ => none
theorem W311_ok : WOk Tryz.prog 311 W311 := by
  intro c l h r e
  unfold W311 at e
  split at e
  · exact ⟨P311, by rw [S311_eq]; exact e⟩
  · cases e
/- (*quietus/draft.Draft).Step -/
def P312 : Pl := (.n none .z (.n none .z (.n (some [0]) .z .z)))
def S312 (c : CV) (a0 : AV) (h : AH) : R :=
pNil a0 fun v0 =>
pFieldA v0 2 fun v1 =>
pLoad1 h v1 fun v2 =>
pInt .add v2 (.int .i64 (.ofNat 1)) fun v3 =>
pNil a0 fun v4 =>
pFieldA v4 2 fun v5 =>
pStore h v5 v3 1 fun h6 =>
joinC (α := AV × Unit → AH → List Nat → R) (fun s7 h8 d9 =>
pCall c (.fn 259 [] []) [s7.1] h8 fun v11 h12 =>
pLeave d9 h12 fun h13 =>
some (v11, h13)) fun j10 =>
pNil a0 fun v14 =>
pFieldA v14 2 fun v15 =>
pLoad1 h6 v15 fun v16 =>
pInt .gtr v16 (.int .i64 (.ofNat 2048)) fun v17 =>
pCond v17 (
pCall c (.fn 314 [] []) [a0, (.int .i64 (.ofNat 2))] h6 fun _ h19 =>
j10 (a0, ()) h19 []) (
j10 (a0, ()) h6 [])
theorem S312_eq (c : CV) (a0 : AV) (h : AH) : enterK Tryz.prog NN P312 c 312 [a0] h = S312 c a0 h := by kernel_rfl
def W312 (c : CV) (l : List AV) (h : AH) : R := match l with | [a0] => S312 c a0 h | _ => none
theorem W312_ok : WOk Tryz.prog 312 W312 := by
  intro c l h r e
  unfold W312 at e
  split at e
  · exact ⟨P312, by rw [S312_eq]; exact e⟩
  · cases e
/- (*quietus/draft.Draft).Place -/
def P313 : Pl := .z
def S313 (c : CV) (a0 a1 : AV) (h : AH) : R :=
pCall c (.fn 265 [] []) [a0, a1] h fun v0 h1 =>
pCall c (.fn 334 [] []) [a0, v0] h1 fun v2 h3 =>
some (v2, h3)
theorem S313_eq (c : CV) (a0 a1 : AV) (h : AH) : enterK Tryz.prog NN P313 c 313 [a0, a1] h = S313 c a0 a1 h := by kernel_rfl
def W313 (c : CV) (l : List AV) (h : AH) : R := match l with | [a0, a1] => S313 c a0 a1 h | _ => none
theorem W313_ok : WOk Tryz.prog 313 W313 := by
  intro c l h r e
  unfold W313 at e
  split at e
  · exact ⟨P313, by rw [S313_eq]; exact e⟩
  · cases e
/- (*quietus/draft.Draft).Fail -/
def P314 : Pl := .z
def S314 (c : CV) (a0 a1 : AV) (h : AH) : R :=
pCall c (.fn 259 [] []) [a0] h fun v0 h1 =>
pCond v0 (
pNil a0 fun v2 =>
pFieldA v2 1 fun v3 =>
pStore h1 v3 a1 1 fun h4 =>
some ((.tup []), h4)) (
some ((.tup []), h1))
theorem S314_eq (c : CV) (a0 a1 : AV) (h : AH) : enterK Tryz.prog NN P314 c 314 [a0, a1] h = S314 c a0 a1 h := by kernel_rfl
def W314 (c : CV) (l : List AV) (h : AH) : R := match l with | [a0, a1] => S314 c a0 a1 h | _ => none
theorem W314_ok : WOk Tryz.prog 314 W314 := by
  intro c l h r e
  unfold W314 at e
  split at e
  · exact ⟨P314, by rw [S314_eq]; exact e⟩
  · cases e
/- quietus/table.chain -/
def P315 : Pl := .z
def S315 (_ : CV) (a0 a1 : AV) (h : AH) : R :=
pInt .mul a0 (.int .u64 (.ofNat 11400714819323198485)) fun v0 =>
pShift .shr v0 (.int .u64 (.ofNat 60)) fun v1 =>
pConvI .i64 v1 fun v2 =>
pInt .sub a1 (.int .i64 (.ofNat 1)) fun v3 =>
pInt .and v2 v3 fun v4 =>
some (v4, h)
theorem S315_eq (c : CV) (a0 a1 : AV) (h : AH) : enterK Tryz.prog NN P315 c 315 [a0, a1] h = S315 c a0 a1 h := by kernel_rfl
def W315 (c : CV) (l : List AV) (h : AH) : R := match l with | [a0, a1] => S315 c a0 a1 h | _ => none
theorem W315_ok : WOk Tryz.prog 315 W315 := by
  intro c l h r e
  unfold W315 at e
  split at e
  · exact ⟨P315, by rw [S315_eq]; exact e⟩
  · cases e
/- (*quietus/table.table).each -/
def P316 : Pl := (.n none .z (.n none (.n (some [11, 10, 1, 0]) (.n none .z (.n none .z (.n none (.n none (.n none .z (.n none .z (.n none (.n (some [11, 10, 5, 1, 0]) (.n none (.n none (.r [[32, 27, 11, 10, 5, 1, 0]]) .z) .z) .z) .z))) .z) .z))) .z) .z))
def S316 (c : CV) (a0 a1 : AV) (h : AH) : R :=
pNil a0 fun v0 =>
pFieldA v0 2 fun v1 =>
pLoad1 h v1 fun v2 =>
loopC (σ := AV × AV × AV × AV × Unit) NN (fun i6 s3 h4 d5 =>
pInt .lss s3.1 s3.2.1 fun v7 =>
pCond v7 (
pNil s3.2.2.2.1 fun v8 =>
pFieldA v8 0 fun v9 =>
pLoad1 h4 v9 fun v10 =>
pNil s3.2.2.2.1 fun v11 =>
pFieldA v11 3 fun v12 =>
pLoad1 h4 v12 fun v13 =>
pInt .add v13 s3.1 fun v14 =>
pCall c (.fn 313 [] []) [v10, v14] h4 fun v15 h16 =>
loopC (σ := AV × AV × AV × AV × AV × Unit) NN (fun i20 s17 h18 d19 =>
pInt .neq s17.2.2.1 (.int .i64 (.ofNat 0)) fun v21 =>
joinC (α := AV × AV × AV × AV × AV × AV × AV × Unit → AH → R) (fun s22 h23 =>
pPick s22.2.1 s22.1 (.bool false) fun v25 =>
pCond v25 (
pNil s22.2.2.2.2.2.2.1 fun v26 =>
pFieldA v26 0 fun v27 =>
pLoad1 h23 v27 fun v28 =>
pInt .add s22.2.2.2.2.1 (.int .i64 (.ofNat 2)) fun v29 =>
pCall c (.fn 313 [] []) [v28, v29] h23 fun v30 h31 =>
pCall c s22.2.2.2.2.2.1 [s22.2.2.2.2.1] h31 fun _ h33 =>
i20 (s22.2.2.1, s22.2.2.2.1, v30, s22.2.2.2.2.2.1, s22.2.2.2.2.2.2.1, ()) h33 d19) (
pInt .add s22.2.2.1 (.int .i64 (.ofNat 1)) fun v34 =>
i6 (v34, s22.2.2.2.1, s22.2.2.2.2.2.1, s22.2.2.2.2.2.2.1, ()) h23 d19)) fun j24 =>
pWant v21 true (
pNil s17.2.2.2.2.1 fun v35 =>
pFieldA v35 0 fun v36 =>
pLoad1 h18 v36 fun v37 =>
pCall c (.fn 312 [] []) [v37] h18 fun v38 h39 =>
j24 (v38, v21, s17.1, s17.2.1, s17.2.2.1, s17.2.2.2.1, s17.2.2.2.2.1, ()) h39) (
j24 (.undef, v21, s17.1, s17.2.1, s17.2.2.1, s17.2.2.2.1, s17.2.2.2.2.1, ()) h18)) (s3.1, s3.2.1, v15, s3.2.2.1, s3.2.2.2.1, ()) h16 d5) (
pLeave d5 h4 fun h40 =>
some ((.tup []), h40))) ((.int .i64 (.ofNat 0)), v2, a1, a0, ()) h []
theorem S316_eq (c : CV) (a0 a1 : AV) (h : AH) : enterK Tryz.prog NN P316 c 316 [a0, a1] h = S316 c a0 a1 h := by kernel_rfl
def W316 (c : CV) (l : List AV) (h : AH) : R := match l with | [a0, a1] => S316 c a0 a1 h | _ => none
theorem W316_ok : WOk Tryz.prog 316 W316 := by
  intro c l h r e
  unfold W316 at e
  split at e
  · exact ⟨P316, by rw [S316_eq]; exact e⟩
  · cases e
/- (*quietus/table.table).grow$1 -/
def P317 : Pl := (.n none (.r [[5, 3, 1, 0]]) .z)
def S317 (c : CV) (a0 a1 a2 a3 : AV) (h : AH) : R :=
joinC (α := AV × AV × AV × AV × Unit → AH → R) (fun s0 h1 =>
pLoad1 h1 s0.2.2.1 fun v3 =>
pNil v3 fun v4 =>
pFieldA v4 0 fun v5 =>
pLoad1 h1 v5 fun v6 =>
pInt .add s0.2.2.2.1 (.int .i64 (.ofNat 2)) fun v7 =>
pLoad1 h1 s0.2.1 fun v8 =>
pIdxS v8 s0.1 1 fun v9 =>
pLoad1 h1 v9 fun v10 =>
pCall c (.fn 263 [] []) [v6, v7, v10] h1 fun _ h12 =>
pLoad1 h12 s0.2.1 fun v13 =>
pIdxS v13 s0.1 1 fun v14 =>
pStore h12 v14 s0.2.2.2.1 1 fun h15 =>
some ((.tup []), h15)) fun j2 =>
pLoad1 h a1 fun v16 =>
pNil v16 fun v17 =>
pFieldA v17 0 fun v18 =>
pLoad1 h v18 fun v19 =>
pInt .add a0 (.int .i64 (.ofNat 0)) fun v20 =>
pCall c (.fn 265 [] []) [v19, v20] h fun v21 h22 =>
pLoad1 h22 a2 fun v23 =>
pCall c (.fn 315 [] []) [v21, v23] h22 fun v24 h25 =>
pChk a2 none v23 h h22 h.nx <|
j2 (v24, a3, a1, a0, ()) h25
theorem S317_eq (c : CV) (a0 a1 a2 a3 : AV) (h : AH) : enterK Tryz.prog NN P317 c 317 [a0, a1, a2, a3] h = S317 c a0 a1 a2 a3 h := by kernel_rfl
def W317 (c : CV) (l : List AV) (h : AH) : R := match l with | [a0, a1, a2, a3] => S317 c a0 a1 a2 a3 h | _ => none
theorem W317_ok : WOk Tryz.prog 317 W317 := by
  intro c l h r e
  unfold W317 at e
  split at e
  · exact ⟨P317, by rw [S317_eq]; exact e⟩
  · cases e
/- quietus/queue.Push$1 -/
def P318 : Pl := (.n none .z (.n (some [5, 4, 2, 0]) .z (.n none .z (.n none .z (.n none .z (.n (some [6, 4, 0]) .z .z))))))
def S318 (c : CV) (a0 a1 a2 : AV) (h : AH) : R :=
pLoad1 h a1 fun v0 =>
pCall c (.fn 313 [] []) [a0, v0] h fun v1 h2 =>
joinC (α := AV × AV × AV × AV × Unit → AH → List Nat → R) (fun s3 h4 d5 =>
pCall c (.fn 261 [] []) [s3.2.2.2.1, (.int .i64 (.ofNat 2))] h4 fun v7 h8 =>
pInt .add v7 (.int .i64 (.ofNat 0)) fun v9 =>
pLoad1 h8 s3.2.2.1 fun v10 =>
pCall c (.fn 262 [] []) [s3.2.2.2.1, v9, v10] h8 fun _ h12 =>
pInt .add v7 (.int .i64 (.ofNat 1)) fun v13 =>
pCall c (.fn 263 [] []) [s3.2.2.2.1, v13, (.int .i64 (.ofNat 0))] h12 fun _ h15 =>
joinC (α := AV × AV × AV × Unit → AH → List Nat → R) (fun s16 h17 d18 =>
pInt .add s16.2.1 (.int .i64 (.ofNat 1)) fun v20 =>
pCall c (.fn 263 [] []) [s16.2.2.1, v20, s16.1] h17 fun _ h22 =>
pLeave d18 h22 fun h23 =>
some ((.tup []), h23)) fun j19 =>
pInt .neq s3.1 (.int .i64 (.ofNat 0)) fun v24 =>
pCond v24 (
pInt .add s3.2.1 (.int .i64 (.ofNat 1)) fun v25 =>
pCall c (.fn 313 [] []) [s3.2.2.2.1, v25] h15 fun v26 h27 =>
pInt .add v26 (.int .i64 (.ofNat 1)) fun v28 =>
pCall c (.fn 263 [] []) [s3.2.2.2.1, v28, v7] h27 fun _ h30 =>
j19 (v7, s3.2.1, s3.2.2.2.1, ()) h30 d5) (
pInt .add s3.2.1 (.int .i64 (.ofNat 0)) fun v31 =>
pCall c (.fn 263 [] []) [s3.2.2.2.1, v31, v7] h15 fun _ h33 =>
j19 (v7, s3.2.1, s3.2.2.2.1, ()) h33 d5)) fun j6 =>
pInt .neq v1 (.int .i64 (.ofNat 0)) fun v34 =>
pCond v34 (
pInt .add v1 (.int .i64 (.ofNat 0)) fun v35 =>
pCall c (.fn 313 [] []) [a0, v35] h2 fun v36 h37 =>
j6 (v36, v1, a2, a0, ()) h37 []) (
pCall c (.fn 259 [] []) [a0] h2 fun v38 h39 =>
pCond v38 (
pCall c (.fn 261 [] []) [a0, (.int .i64 (.ofNat 2))] h39 fun v40 h41 =>
pLoad1 h41 a1 fun v42 =>
pCall c (.fn 263 [] []) [a0, v42, v40] h41 fun _ h44 =>
j6 ((.int .i64 (.ofNat 0)), v40, a2, a0, ()) h44 []) (
j6 ((.int .i64 (.ofNat 0)), v1, a2, a0, ()) h39 []))
theorem S318_eq (c : CV) (a0 a1 a2 : AV) (h : AH) : enterK Tryz.prog NN P318 c 318 [a0, a1, a2] h = S318 c a0 a1 a2 h := by kernel_rfl
def W318 (c : CV) (l : List AV) (h : AH) : R := match l with | [a0, a1, a2] => S318 c a0 a1 a2 h | _ => none
theorem W318_ok : WOk Tryz.prog 318 W318 := by
  intro c l h r e
  unfold W318 at e
  split at e
  · exact ⟨P318, by rw [S318_eq]; exact e⟩
  · cases e
/- quietus/queue.Take$1 -/
def P319 : Pl := .z
def S319 (c : CV) (a0 a1 a2 a3 : AV) (h : AH) : R :=
pLoad1 h a1 fun v0 =>
pCall c (.fn 313 [] []) [a0, v0] h fun v1 h2 =>
pInt .eql v1 (.int .i64 (.ofNat 0)) fun v3 =>
pCond v3 (
some ((.tup []), h2)) (
pInt .add v1 (.int .i64 (.ofNat 0)) fun v4 =>
pCall c (.fn 313 [] []) [a0, v4] h2 fun v5 h6 =>
pInt .eql v5 (.int .i64 (.ofNat 0)) fun v7 =>
pCond v7 (
some ((.tup []), h6)) (
pInt .add v5 (.int .i64 (.ofNat 0)) fun v8 =>
pCall c (.fn 265 [] []) [a0, v8] h6 fun v9 h10 =>
pStore h10 a2 v9 1 fun h11 =>
pStore h11 a3 (.bool true) 1 fun h12 =>
pInt .add v1 (.int .i64 (.ofNat 0)) fun v13 =>
pInt .add v5 (.int .i64 (.ofNat 1)) fun v14 =>
pCall c (.fn 265 [] []) [a0, v14] h12 fun v15 h16 =>
pCall c (.fn 262 [] []) [a0, v13, v15] h16 fun _ h18 =>
pCall c (.fn 266 [] []) [a0, v5] h18 fun _ h20 =>
some ((.tup []), h20)))
theorem S319_eq (c : CV) (a0 a1 a2 a3 : AV) (h : AH) : enterK Tryz.prog NN P319 c 319 [a0, a1, a2, a3] h = S319 c a0 a1 a2 a3 h := by kernel_rfl
def W319 (c : CV) (l : List AV) (h : AH) : R := match l with | [a0, a1, a2, a3] => S319 c a0 a1 a2 a3 h | _ => none
theorem W319_ok : WOk Tryz.prog 319 W319 := by
  intro c l h r e
  unfold W319 at e
  split at e
  · exact ⟨P319, by rw [S319_eq]; exact e⟩
  · cases e
/- (*quietus/tree.tree).child -/
def P320 : Pl := (.n none .z (.n none .z (.n none .z (.n none (.r [[6]]) .z))))
def S320 (c : CV) (a0 a1 a2 : AV) (h : AH) : R :=
pInt .eql a1 (.int .i64 (.ofNat 0)) fun v0 =>
pCond v0 (
pNil a0 fun v1 =>
pFieldA v1 0 fun v2 =>
pLoad1 h v2 fun v3 =>
pCall c (.fn 314 [] []) [v3, (.int .i64 (.ofNat 2))] h fun _ h5 =>
some ((.int .i64 (.ofNat 0)), h5)) (
pInt .eql a2 (.int .i64 (.ofNat 1)) fun v6 =>
pCond v6 (
pNil a0 fun v7 =>
pFieldA v7 0 fun v8 =>
pLoad1 h v8 fun v9 =>
pInt .add a1 (.int .i64 (.ofNat 3)) fun v10 =>
pCall c (.fn 313 [] []) [v9, v10] h fun v11 h12 =>
some (v11, h12)) (
joinC (α := AV × Unit → AH → R) (fun s13 h14 =>
some (s13.1, h14)) fun j15 =>
pNil a0 fun v16 =>
pFieldA v16 0 fun v17 =>
pLoad1 h v17 fun v18 =>
pNil a0 fun v19 =>
pFieldA v19 0 fun v20 =>
pLoad1 h v20 fun v21 =>
pInt .add a1 (.int .i64 (.ofNat 2)) fun v22 =>
pCall c (.fn 265 [] []) [v21, v22] h fun v23 h24 =>
pShift .shr v23 (.int .u64 (.ofNat 1)) fun v25 =>
pCall c (.fn 334 [] []) [v18, v25] h24 fun v26 h27 =>
pChk v17 none v18 h h24 h.nx <|
j15 (v26, ()) h27))
theorem S320_eq (c : CV) (a0 a1 a2 : AV) (h : AH) : enterK Tryz.prog NN P320 c 320 [a0, a1, a2] h = S320 c a0 a1 a2 h := by kernel_rfl
def W320 (c : CV) (l : List AV) (h : AH) : R := match l with | [a0, a1, a2] => S320 c a0 a1 a2 h | _ => none
theorem W320_ok : WOk Tryz.prog 320 W320 := by
  intro c l h r e
  unfold W320 at e
  split at e
  · exact ⟨P320, by rw [S320_eq]; exact e⟩
  · cases e
/- (*quietus/tree.tree).hang -/
def P321 : Pl := (.n none .z (.r [[]]))
def S321 (c : CV) (a0 a1 a2 a3 : AV) (h : AH) : R :=
pInt .eql a2 (.int .i64 (.ofNat 1)) fun v0 =>
pCond v0 (
pNil a0 fun v1 =>
pFieldA v1 0 fun v2 =>
pLoad1 h v2 fun v3 =>
pInt .add a1 (.int .i64 (.ofNat 3)) fun v4 =>
pCall c (.fn 263 [] []) [v3, v4, a3] h fun _ h6 =>
some ((.tup []), h6)) (
joinC (α := Unit → AH → R) (fun _ h8 =>
some ((.tup []), h8)) fun j9 =>
pNil a0 fun v10 =>
pFieldA v10 0 fun v11 =>
pLoad1 h v11 fun v12 =>
pInt .add a1 (.int .i64 (.ofNat 2)) fun v13 =>
pConvI .u64 a3 fun v14 =>
pShift .shl v14 (.int .u64 (.ofNat 1)) fun v15 =>
pNil a0 fun v16 =>
pFieldA v16 0 fun v17 =>
pLoad1 h v17 fun v18 =>
pInt .add a1 (.int .i64 (.ofNat 2)) fun v19 =>
pCall c (.fn 265 [] []) [v18, v19] h fun v20 h21 =>
pInt .and v20 (.int .u64 (.ofNat 1)) fun v22 =>
pInt .or v15 v22 fun v23 =>
pCall c (.fn 262 [] []) [v12, v13, v23] h21 fun _ h25 =>
pChk v11 none v12 h h21 h.nx <|
j9 (()) h25)
theorem S321_eq (c : CV) (a0 a1 a2 a3 : AV) (h : AH) : enterK Tryz.prog NN P321 c 321 [a0, a1, a2, a3] h = S321 c a0 a1 a2 a3 h := by kernel_rfl
def W321 (c : CV) (l : List AV) (h : AH) : R := match l with | [a0, a1, a2, a3] => S321 c a0 a1 a2 a3 h | _ => none
theorem W321_ok : WOk Tryz.prog 321 W321 := by
  intro c l h r e
  unfold W321 at e
  split at e
  · exact ⟨P321, by rw [S321_eq]; exact e⟩
  · cases e
/- (*quietus/tree.tree).red -/
def P322 : Pl := (.n none .z (.n none (.r [[16, 7]]) .z))
def S322 (c : CV) (a0 a1 : AV) (h : AH) : R :=
pInt .neq a1 (.int .i64 (.ofNat 0)) fun v0 =>
joinC (α := AV × AV × Unit → AH → R) (fun s1 h2 =>
pPick s1.2.1 s1.1 (.bool false) fun v4 =>
some (v4, h2)) fun j3 =>
pWant v0 true (
pNil a0 fun v5 =>
pFieldA v5 0 fun v6 =>
pLoad1 h v6 fun v7 =>
pInt .add a1 (.int .i64 (.ofNat 2)) fun v8 =>
pCall c (.fn 265 [] []) [v7, v8] h fun v9 h10 =>
pInt .and v9 (.int .u64 (.ofNat 1)) fun v11 =>
pInt .eql v11 (.int .u64 (.ofNat 1)) fun v12 =>
j3 (v12, v0, ()) h10) (
j3 (.undef, v0, ()) h)
theorem S322_eq (c : CV) (a0 a1 : AV) (h : AH) : enterK Tryz.prog NN P322 c 322 [a0, a1] h = S322 c a0 a1 h := by kernel_rfl
def W322 (c : CV) (l : List AV) (h : AH) : R := match l with | [a0, a1] => S322 c a0 a1 h | _ => none
theorem W322_ok : WOk Tryz.prog 322 W322 := by
  intro c l h r e
  unfold W322 at e
  split at e
  · exact ⟨P322, by rw [S322_eq]; exact e⟩
  · cases e
/- (*quietus/tree.tree).straight -/
def P323 : Pl := (.n none .z (.n (some [5, 0]) (.n none .z (.n none (.r [[5, 0]]) .z)) .z))
def S323 (c : CV) (a0 a1 a2 : AV) (h : AH) : R :=
pBox h 349 a1 fun v0 h1 =>
pBox h1 349 a2 fun v2 h3 =>
joinC (α := AV × AV × Unit → AH → List Nat → R) (fun s4 h5 d6 =>
pFieldA s4.1 0 fun v8 =>
pLoad1 h5 v8 fun v9 =>
pFieldA s4.1 1 fun v10 =>
pLoad1 h5 v10 fun v11 =>
pInt .sub (.int .i64 (.ofNat 1)) v11 fun v12 =>
pCall c (.fn 335 [] []) [s4.2.1, v9, v12] h5 fun v13 h14 =>
pCall c (.fn 324 [] []) [s4.2.1, v13, (.bool false)] h14 fun _ h16 =>
pFieldA s4.1 0 fun v17 =>
pLoad1 h16 v17 fun v18 =>
pCall c (.fn 324 [] []) [s4.2.1, v18, (.bool true)] h16 fun _ h20 =>
pNil s4.2.1 fun v21 =>
pFieldA v21 2 fun v22 =>
pLoad1 h20 v22 fun v23 =>
pLenS v23 fun v24 =>
pInt .sub v24 (.int .i64 (.ofNat 2)) fun v25 =>
pCall c (.fn 281 [] []) [s4.2.1, v25, v13] h20 fun _ h27 =>
pLeave d6 h27 fun h28 =>
some ((.tup []), h28)) fun j7 =>
pFieldA v0 1 fun v29 =>
pLoad1 h3 v29 fun v30 =>
pFieldA v2 1 fun v31 =>
pLoad1 h3 v31 fun v32 =>
pInt .neq v30 v32 fun v33 =>
pCond v33 (
joinC (α := AV × AV × Unit → AH → R) (fun s34 h35 =>
j7 (s34.1, s34.2.1, ()) h35 []) fun j36 =>
pFieldA v2 0 fun v37 =>
pLoad1 h3 v37 fun v38 =>
pFieldA v2 1 fun v39 =>
pLoad1 h3 v39 fun v40 =>
pFieldA v0 0 fun v41 =>
pLoad1 h3 v41 fun v42 =>
pFieldA v2 1 fun v43 =>
pLoad1 h3 v43 fun v44 =>
pCall c (.fn 335 [] []) [a0, v42, v44] h3 fun v45 h46 =>
pCall c (.fn 321 [] []) [a0, v38, v40, v45] h46 fun _ h48 =>
pChk v39 none v40 h3 h46 h3.nx <|
pChk v37 none v38 h3 h46 h3.nx <|
j36 (v2, a0, ()) h48) (
j7 (v2, a0, ()) h3 [])
theorem S323_eq (c : CV) (a0 a1 a2 : AV) (h : AH) : enterK Tryz.prog NN P323 c 323 [a0, a1, a2] h = S323 c a0 a1 a2 h := by kernel_rfl
def W323 (c : CV) (l : List AV) (h : AH) : R := match l with | [a0, a1, a2] => S323 c a0 a1 a2 h | _ => none
theorem W323_ok : WOk Tryz.prog 323 W323 := by
  intro c l h r e
  unfold W323 at e
  split at e
  · exact ⟨P323, by rw [S323_eq]; exact e⟩
  · cases e
/- (*quietus/tree.tree).paint -/
def P324 : Pl := .z
def S324 (c : CV) (a0 a1 a2 : AV) (h : AH) : R :=
pInt .eql a1 (.int .i64 (.ofNat 0)) fun v0 =>
pCond v0 (
pNil a0 fun v1 =>
pFieldA v1 0 fun v2 =>
pLoad1 h v2 fun v3 =>
pCall c (.fn 314 [] []) [v3, (.int .i64 (.ofNat 2))] h fun _ h5 =>
some ((.tup []), h5)) (
pNil a0 fun v6 =>
pFieldA v6 0 fun v7 =>
pLoad1 h v7 fun v8 =>
pInt .add a1 (.int .i64 (.ofNat 2)) fun v9 =>
pCall c (.fn 265 [] []) [v8, v9] h fun v10 h11 =>
pInt .and v10 (.int .u64 (.ofNat 1)) fun v12 =>
pInt .eql v12 (.int .u64 (.ofNat 1)) fun v13 =>
pEq .bool true v13 a2 fun v14 =>
pCond v14 (
pNil a0 fun v15 =>
pFieldA v15 0 fun v16 =>
pLoad1 h11 v16 fun v17 =>
pInt .add a1 (.int .i64 (.ofNat 2)) fun v18 =>
pInt .xor v10 (.int .u64 (.ofNat 1)) fun v19 =>
pCall c (.fn 262 [] []) [v17, v18, v19] h11 fun _ h21 =>
some ((.tup []), h21)) (
some ((.tup []), h11)))
theorem S324_eq (c : CV) (a0 a1 a2 : AV) (h : AH) : enterK Tryz.prog NN P324 c 324 [a0, a1, a2] h = S324 c a0 a1 a2 h := by kernel_rfl
def W324 (c : CV) (l : List AV) (h : AH) : R := match l with | [a0, a1, a2] => S324 c a0 a1 a2 h | _ => none
theorem W324_ok : WOk Tryz.prog 324 W324 := by
  intro c l h r e
  unfold W324 at e
  split at e
  · exact ⟨P324, by rw [S324_eq]; exact e⟩
  · cases e
/- (*quietus/tree.tree).heir -/
def P325 : Pl := (.n none .z (.n none .z (.n none .z (.n none (.n (some [1]) (.n (some [1, 0]) .z .z) .z) .z))))
def S325 (c : CV) (a0 a1 : AV) (h : AH) : R :=
pNil a0 fun v0 =>
pFieldA v0 2 fun v1 =>
pLoad1 h v1 fun v2 =>
pBuild [(.int .i64 (.ofNat 0)), (.int .i64 (.ofNat 0))] [(0, 1, a1), (1, 1, (.int .i64 (.ofNat 1)))] fun v3 =>
pBuildS h 349 [(.int .i64 (.ofNat 0)), (.int .i64 (.ofNat 0))] 1 [(0, 2, v3)] fun v4 h5 =>
pAppend h5 349 2 v2 v4 fun v6 h7 =>
pNil a0 fun v8 =>
pFieldA v8 2 fun v9 =>
pStore h7 v9 v6 1 fun h10 =>
pCall c (.fn 320 [] []) [a0, a1, (.int .i64 (.ofNat 1))] h10 fun v11 h12 =>
joinC (α := AV × Unit → AH → List Nat → R) (fun s13 h14 d15 =>
pLeave d15 h14 fun h17 =>
some (s13.1, h17)) fun j16 =>
loopC (σ := AV × AV × Unit) NN (fun i21 s18 h19 d20 =>
pNil s18.2.1 fun v22 =>
pFieldA v22 0 fun v23 =>
pLoad1 h19 v23 fun v24 =>
pCall c (.fn 312 [] []) [v24] h19 fun v25 h26 =>
pCond v25 (
pCall c (.fn 320 [] []) [s18.2.1, s18.1, (.int .i64 (.ofNat 0))] h26 fun v27 h28 =>
pInt .eql v27 (.int .i64 (.ofNat 0)) fun v29 =>
pCond v29 (
j16 (s18.1, ()) h28 d20) (
pNil s18.2.1 fun v30 =>
pFieldA v30 2 fun v31 =>
pLoad1 h28 v31 fun v32 =>
pBuild [(.int .i64 (.ofNat 0)), (.int .i64 (.ofNat 0))] [(0, 1, s18.1), (1, 1, (.int .i64 (.ofNat 0)))] fun v33 =>
pBuildS h28 349 [(.int .i64 (.ofNat 0)), (.int .i64 (.ofNat 0))] 1 [(0, 2, v33)] fun v34 h35 =>
pAppend h35 349 2 v32 v34 fun v36 h37 =>
pNil s18.2.1 fun v38 =>
pFieldA v38 2 fun v39 =>
pStore h37 v39 v36 1 fun h40 =>
i21 (v27, s18.2.1, ()) h40 d20)) (
j16 (s18.1, ()) h26 d20)) (v11, a0, ()) h12 []
theorem S325_eq (c : CV) (a0 a1 : AV) (h : AH) : enterK Tryz.prog NN P325 c 325 [a0, a1] h = S325 c a0 a1 h := by kernel_rfl
def W325 (c : CV) (l : List AV) (h : AH) : R := match l with | [a0, a1] => S325 c a0 a1 h | _ => none
theorem W325_ok : WOk Tryz.prog 325 W325 := by
  intro c l h r e
  unfold W325 at e
  split at e
  · exact ⟨P325, by rw [S325_eq]; exact e⟩
  · cases e
/- (*quietus/tree.tree).lowered -/
def P326 : Pl := (.n none (.n (some [0]) (.n none (.n none (.r [[16, 11, 0]]) .z) (.n (some [0]) (.n none .z (.n none .z (.n none .z (.n none .z (.n none (.n none (.r [[90, 85, 4, 3, 2, 0]]) .z) .z))))) .z)) .z) .z)
def S326 (c : CV) (a0 : AV) (h : AH) : R :=
loopC (σ := AV × Unit) NN (fun i3 s0 h1 d2 =>
pNil s0.1 fun v4 =>
pFieldA v4 2 fun v5 =>
pLoad1 h1 v5 fun v6 =>
pLenS v6 fun v7 =>
pInt .gtr v7 (.int .i64 (.ofNat 0)) fun v8 =>
joinC (α := AV × AV × AV × Unit → AH → R) (fun s9 h10 =>
pPick s9.2.1 s9.1 (.bool false) fun v12 =>
pCond v12 (
joinC (α := AV × Unit → AH → List Nat → R) (fun s13 h14 d15 =>
i3 (s13.1, ()) h14 d15) fun j16 =>
pNil s9.2.2.1 fun v17 =>
pFieldA v17 2 fun v18 =>
pLoad1 h10 v18 fun v19 =>
pLenS v19 fun v20 =>
pNil s9.2.2.1 fun v21 =>
pFieldA v21 2 fun v22 =>
pLoad1 h10 v22 fun v23 =>
pInt .sub v20 (.int .i64 (.ofNat 1)) fun v24 =>
pIdxS v23 v24 2 fun v25 =>
pLoadN h10 v25 2 fun v26 =>
pBox h10 349 (.agg [(.int .i64 (.ofNat 0)), (.int .i64 (.ofNat 0))]) fun v27 h28 =>
pStore h28 v27 v26 2 fun h29 =>
pFieldA v27 0 fun v30 =>
pLoad1 h29 v30 fun v31 =>
pFieldA v27 1 fun v32 =>
pLoad1 h29 v32 fun v33 =>
pInt .sub (.int .i64 (.ofNat 1)) v33 fun v34 =>
pCall c (.fn 320 [] []) [s9.2.2.1, v31, v34] h29 fun v35 h36 =>
pCall c (.fn 322 [] []) [s9.2.2.1, v35] h36 fun v37 h38 =>
pCond v37 (
pFieldA v27 0 fun v39 =>
pLoad1 h38 v39 fun v40 =>
pFieldA v27 1 fun v41 =>
pLoad1 h38 v41 fun v42 =>
pCall c (.fn 335 [] []) [s9.2.2.1, v40, v42] h38 fun _ h44 =>
pCall c (.fn 324 [] []) [s9.2.2.1, v35, (.bool false)] h44 fun _ h46 =>
pFieldA v27 0 fun v47 =>
pLoad1 h46 v47 fun v48 =>
pCall c (.fn 324 [] []) [s9.2.2.1, v48, (.bool true)] h46 fun _ h50 =>
pInt .sub v20 (.int .i64 (.ofNat 1)) fun v51 =>
pCall c (.fn 281 [] []) [s9.2.2.1, v51, v35] h50 fun _ h53 =>
pNil s9.2.2.1 fun v54 =>
pFieldA v54 2 fun v55 =>
pLoad1 h53 v55 fun v56 =>
pInt .sub v20 (.int .i64 (.ofNat 1)) fun v57 =>
pFieldA v27 1 fun v58 =>
pLoad1 h53 v58 fun v59 =>
pBuild [(.int .i64 (.ofNat 0)), (.int .i64 (.ofNat 0))] [(0, 1, v35), (1, 1, v59)] fun v60 =>
pIdxS v56 v57 2 fun v61 =>
pStore h53 v61 v60 2 fun h62 =>
pNil s9.2.2.1 fun v63 =>
pFieldA v63 2 fun v64 =>
pLoad1 h62 v64 fun v65 =>
pLoadN h62 v27 2 fun v66 =>
pBuildS h62 349 [(.int .i64 (.ofNat 0)), (.int .i64 (.ofNat 0))] 1 [(0, 2, v66)] fun v67 h68 =>
pAppend h68 349 2 v65 v67 fun v69 h70 =>
pNil s9.2.2.1 fun v71 =>
pFieldA v71 2 fun v72 =>
pStore h70 v72 v69 1 fun h73 =>
j16 (s9.2.2.1, ()) h73 d2) (
pCall c (.fn 320 [] []) [s9.2.2.1, v35, (.int .i64 (.ofNat 0))] h38 fun v74 h75 =>
pCall c (.fn 322 [] []) [s9.2.2.1, v74] h75 fun v76 h77 =>
joinC (α := AV × AV × AV × AV × AV × AV × Unit → AH → R) (fun s78 h79 =>
pPick s78.2.1 (.bool true) s78.1 fun v81 =>
pCond v81 (
pLoadN h79 s78.2.2.2.1 2 fun v82 =>
pCall c (.fn 336 [] []) [s78.2.2.2.2.2.1, v82, s78.2.2.1] h79 fun _ h84 =>
pLeave d2 h84 fun h85 =>
some ((.tup []), h85)) (
pCall c (.fn 324 [] []) [s78.2.2.2.2.2.1, s78.2.2.1, (.bool true)] h79 fun _ h87 =>
pFieldA s78.2.2.2.1 0 fun v88 =>
pLoad1 h87 v88 fun v89 =>
pCall c (.fn 322 [] []) [s78.2.2.2.2.2.1, v89] h87 fun v90 h91 =>
pCond v90 (
pFieldA s78.2.2.2.1 0 fun v92 =>
pLoad1 h91 v92 fun v93 =>
pCall c (.fn 324 [] []) [s78.2.2.2.2.2.1, v93, (.bool false)] h91 fun _ h95 =>
pLeave d2 h95 fun h96 =>
some ((.tup []), h96)) (
pNil s78.2.2.2.2.2.1 fun v97 =>
pFieldA v97 2 fun v98 =>
pLoad1 h91 v98 fun v99 =>
pInt .sub s78.2.2.2.2.1 (.int .i64 (.ofNat 1)) fun v100 =>
pSlice h91 349 2 v99 none (some v100) fun v101 =>
pNil s78.2.2.2.2.2.1 fun v102 =>
pFieldA v102 2 fun v103 =>
pStore h91 v103 v101 1 fun h104 =>
j16 (s78.2.2.2.2.2.1, ()) h104 d2))) fun j80 =>
pWant v76 false (
pCall c (.fn 320 [] []) [s9.2.2.1, v35, (.int .i64 (.ofNat 1))] h77 fun v105 h106 =>
pCall c (.fn 322 [] []) [s9.2.2.1, v105] h106 fun v107 h108 =>
j80 (v107, v76, v35, v27, v20, s9.2.2.1, ()) h108) (
j80 (.undef, v76, v35, v27, v20, s9.2.2.1, ()) h77))) (
pLeave d2 h10 fun h109 =>
some ((.tup []), h109))) fun j11 =>
pWant v8 true (
pNil s0.1 fun v110 =>
pFieldA v110 0 fun v111 =>
pLoad1 h1 v111 fun v112 =>
pCall c (.fn 312 [] []) [v112] h1 fun v113 h114 =>
j11 (v113, v8, s0.1, ()) h114) (
j11 (.undef, v8, s0.1, ()) h1)) (a0, ()) h []
theorem S326_eq (c : CV) (a0 : AV) (h : AH) : enterK Tryz.prog NN P326 c 326 [a0] h = S326 c a0 h := by kernel_rfl
def W326 (c : CV) (l : List AV) (h : AH) : R := match l with | [a0] => S326 c a0 h | _ => none
theorem W326_ok : WOk Tryz.prog 326 W326 := by
  intro c l h r e
  unfold W326 at e
  split at e
  · exact ⟨P326, by rw [S326_eq]; exact e⟩
  · cases e
/- quietus/arena.Size -/
def P327 : Pl := (.n none .z (.n none (.n none (.r [[7, 5, 0]]) .z) .z))
def S327 (_ : CV) (a0 : AV) (h : AH) : R :=
pInt .lss a0 (.int .i64 (.ofNat 1)) fun v0 =>
joinC (α := AV × AV × AV × Unit → AH → R) (fun s1 h2 =>
pPick s1.2.1 (.bool true) s1.1 fun v4 =>
pCond v4 (
some ((.int .i64 (.ofNat 0)), h2)) (
pShift .shl (.int .i64 (.ofNat 1)) s1.2.2.1 fun v5 =>
some (v5, h2))) fun j3 =>
pWant v0 false (
pInt .gtr a0 (.int .i64 (.ofNat 4)) fun v6 =>
j3 (v6, v0, a0, ()) h) (
j3 (.undef, v0, a0, ()) h)
theorem S327_eq (c : CV) (a0 : AV) (h : AH) : enterK Tryz.prog NN P327 c 327 [a0] h = S327 c a0 h := by kernel_rfl
def W327 (c : CV) (l : List AV) (h : AH) : R := match l with | [a0] => S327 c a0 h | _ => none
theorem W327_ok : WOk Tryz.prog 327 W327 := by
  intro c l h r e
  unfold W327 at e
  split at e
  · exact ⟨P327, by rw [S327_eq]; exact e⟩
  · cases e
/- (*quietus/levels.Levels).Free -/
def P328 : Pl := .z
def S328 (c : CV) (a0 a1 : AV) (h : AH) : R :=
pCall c (.fn 232 [] []) [a0] h fun v0 h1 =>
pNil v0 fun v2 =>
pFieldA v2 1 fun v3 =>
pLoad1 h1 v3 fun v4 =>
pBuildS h1 3 [(.int .i64 (.ofNat 0))] 1 [(0, 1, a1)] fun v5 h6 =>
pAppend h6 3 1 v4 v5 fun v7 h8 =>
pNil v0 fun v9 =>
pFieldA v9 1 fun v10 =>
pStore h8 v10 v7 1 fun h11 =>
some ((.tup []), h11)
theorem S328_eq (c : CV) (a0 a1 : AV) (h : AH) : enterK Tryz.prog NN P328 c 328 [a0, a1] h = S328 c a0 a1 h := by kernel_rfl
def W328 (c : CV) (l : List AV) (h : AH) : R := match l with | [a0, a1] => S328 c a0 a1 h | _ => none
theorem W328_ok : WOk Tryz.prog 328 W328 := by
  intro c l h r e
  unfold W328 at e
  split at e
  · exact ⟨P328, by rw [S328_eq]; exact e⟩
  · cases e
/- (*quietus/levels.Levels).Open -/
def P329 : Pl := (.n none .z (.n none .z (.n none (.r [[]]) .z)))
def S329 (c : CV) (a0 : AV) (h : AH) : R :=
pNil a0 fun v0 =>
pFieldA v0 1 fun v1 =>
pLoad1 h v1 fun v2 =>
pLenS v2 fun v3 =>
pInt .geq v3 (.int .i64 (.ofNat 6)) fun v4 =>
pCond v4 (
some ((.int .i64 (.ofNat 9)), h)) (
joinC (α := Unit → AH → R) (fun _ h6 =>
some ((.int .i64 (.ofNat 0)), h6)) fun j7 =>
pNil a0 fun v8 =>
pFieldA v8 1 fun v9 =>
pLoad1 h v9 fun v10 =>
pCall c (.fn 180 [] []) [] h fun v11 h12 =>
pBuildS h12 227 [.nilp] 1 [(0, 1, v11)] fun v13 h14 =>
pAppend h14 227 1 v10 v13 fun v15 h16 =>
pNil a0 fun v17 =>
pFieldA v17 1 fun v18 =>
pStore h16 v18 v15 1 fun h19 =>
pChk v9 none v10 h h12 h.nx <|
j7 (()) h19)
theorem S329_eq (c : CV) (a0 : AV) (h : AH) : enterK Tryz.prog NN P329 c 329 [a0] h = S329 c a0 h := by kernel_rfl
def W329 (c : CV) (l : List AV) (h : AH) : R := match l with | [a0] => S329 c a0 h | _ => none
theorem W329_ok : WOk Tryz.prog 329 W329 := by
  intro c l h r e
  unfold W329 at e
  split at e
  · exact ⟨P329, by rw [S329_eq]; exact e⟩
  · cases e
/- (*quietus/writes.Writes).Len -/
def P330 : Pl := .z
def S330 (_ : CV) (a0 : AV) (h : AH) : R :=
pNil a0 fun v0 =>
pFieldA v0 1 fun v1 =>
pLoad1 h v1 fun v2 =>
pLenS v2 fun v3 =>
some (v3, h)
theorem S330_eq (c : CV) (a0 : AV) (h : AH) : enterK Tryz.prog NN P330 c 330 [a0] h = S330 c a0 h := by kernel_rfl
def W330 (c : CV) (l : List AV) (h : AH) : R := match l with | [a0] => S330 c a0 h | _ => none
theorem W330_ok : WOk Tryz.prog 330 W330 := by
  intro c l h r e
  unfold W330 at e
  split at e
  · exact ⟨P330, by rw [S330_eq]; exact e⟩
  · cases e
end
end Go.Proofs.YthkhbmdpmdkmoaaGreatDoor
