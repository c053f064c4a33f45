/- Printed by a program of mine: the bodies of the program's functions aa terms of the primitives of the abstract executor, each shown equal by the kernel. -/
import Derived.Test.YtpohfcljfemhlaaGreatProg
import Derived.Test.YtpohfcljfemhlaaGreatTreeApartAe1
import Derived.KernelRfl
namespace Go.Proofs.YtpohfcljfemhlaaGreat
open Go Go.Ae
set_option maxRecDepth 100000
noncomputable section
def P4 : Pl := (.n none .z (.n none .z (.n none .z (.n none .z (.n none .z (.n none (.n none .z (.n none (.n (some [10, 9, 8, 7, 5, 1, 0]) (.n none (.n none (.r [[41, 39, 10, 9, 8, 7, 5, 1, 0]]) .z) (.n none (.n none (.n none .z (.n (some [11, 10, 9, 8, 7, 5, 1, 0]) .z (.n none .z (.n none .z (.n none .z (.n none .z (.n none .z (.n none .z (.n none (.n (some [16, 14, 10, 9, 8, 7, 5, 1, 0]) (.n none (.n none (.r [[90, 86, 16, 14, 10, 9, 8, 7, 5, 1, 0]]) .z) (.n none (.n none (.n none .z (.n none (.n (some [17, 16, 14, 10, 9, 8, 7, 5, 1, 0]) (.n none (.n none (.r [[118, 17, 16, 14, 10, 9, 8, 7, 5, 1, 0]]) .z) .z) .z) .z)) .z) .z)) .z) .z))))))))) .z) .z)) .z) .z)) (.n none .z (.n none .z (.n none .z (.n none .z (.n none .z (.n none .z (.n none (.n none .z (.n (some [19, 9]) (.n (some [20, 19, 18, 9, 7, 5]) (.n none .z (.n none (.n none (.n none .z (.n none .z (.n none .z (.n none (.r [[165, 161, 23, 20, 19, 18, 9, 7, 5], [171, 167, 23, 20, 19, 18, 9, 7, 5], [181, 173, 20, 19, 18, 9, 7, 5]]) .z)))) .z) .z)) .z) .z)) (.n none .z (.n none (.n none .z (.n none (.n (some [25, 24, 9]) (.n none .z (.n none (.n none (.n none (.r [[205, 197, 25, 24, 9], [215, 207, 25, 24, 9]]) .z) .z) .z)) .z) .z)) .z)))))))))))))))
def S4 (c : CV) (a0 a1 a2 : AV) (h : AH) : R :=
jb h 25 a2 fun v0 h1 =>
qx c (.fn 6 [] []) [] h1 fun v2 h3 =>
pUn .not v2 fun v4 =>
qD v4 (
some ((.bool false), h3)) (
qx c (.fn 7 [] []) [(iI 256)] h3 fun v5 h6 =>
jW [.nils, .nils, .nils, .nils, .nils, .nils, .nils, .nils] [] fun v7 =>
jb h6 33 v7 fun v8 h9 =>
vL h9 4 [(.bool false)] (iI 257) (iI 257) fun v10 h11 =>
zM (σ := AV × AV × AV × AV × AV × AV × AV × Unit) NN (fun i15 s12 h13 d14 =>
jy s12.2.2.2.2.2.2.1 fun v16 =>
jy s12.2.2.2.2.2.1 fun v17 =>
qA .add v16 v17 fun v18 =>
qA .lss s12.1 v18 fun v19 =>
qb (α := AV × AV × AV × AV × AV × AV × AV × AV × AV × Unit → AH → R) (fun s20 h21 =>
jz s20.2.1 s20.1 (.bool false) fun v23 =>
qD v23 (
jW [(iI 0), (iI 0), (uU 0), (uU 0)] [] fun v24 =>
jb h21 25 (.agg [(iI 0), (iI 0), (uU 0), (uU 0)]) fun v25 h26 =>
qa h26 v25 v24 4 fun h27 =>
qb (α := AV × AV × AV × AV × AV × AV × AV × AV × Unit → AH → List Nat → R) (fun s28 h29 d30 =>
qu h29 s28.1 4 fun v32 =>
qx c (.fn 8 [] []) [s28.2.2.2.2.1, s28.2.2.2.1, v32] h29 fun v33 h34 =>
qE v33 0 fun v35 =>
qE v33 1 fun v36 =>
pUn .not v36 fun v37 =>
qD v37 (
qd d30 h34 fun h38 =>
some ((.bool false), h38)) (
qx c (.fn 22 [] []) [v35] h34 fun v39 h40 =>
qE v39 0 fun v41 =>
qE v39 1 fun v42 =>
qA .neq v42 (iI 0) fun v43 =>
qD v43 (
qd d30 h40 fun h44 =>
some ((.bool false), h44)) (
zM (σ := AV × AV × AV × AV × AV × AV × AV × AV × AV × Unit) NN (fun i48 s45 h46 d47 =>
jy s45.2.2.2.2.2.2.2.2.1 fun v49 =>
qA .lss s45.2.2.1 v49 fun v50 =>
qb (α := AV × AV × AV × AV × AV × AV × AV × AV × AV × AV × AV × Unit → AH → R) (fun s51 h52 =>
jz s51.2.1 s51.1 (.bool false) fun v54 =>
qD v54 (
jY s51.2.2.2.1 s51.2.2.1 3 fun v55 =>
qV v55 0 fun v56 =>
qW h52 v56 fun v57 =>
zM (σ := AV × AV × AV × AV × AV × AV × AV × AV × AV × AV × Unit) NN (fun i61 s58 h59 d60 =>
qb (α := AV × AV × AV × AV × AV × AV × AV × AV × AV × AV × AV × Unit → AH → R) (fun s62 h63 =>
qD s62.1 (
jY s62.2.2.2.1 s62.2.2.1 3 fun v65 =>
qV v65 2 fun v66 =>
qW h63 v66 fun v67 =>
jY s62.2.2.2.2.2.1 s62.2.1 1 fun v68 =>
qa h63 v68 v67 1 fun h69 =>
qA .add s62.2.1 (iI 1) fun v70 =>
i61 (v70, s62.2.2.1, s62.2.2.2.1, s62.2.2.2.2.1, s62.2.2.2.2.2.1, s62.2.2.2.2.2.2.1, s62.2.2.2.2.2.2.2.1, s62.2.2.2.2.2.2.2.2.1, s62.2.2.2.2.2.2.2.2.2.1, s62.2.2.2.2.2.2.2.2.2.2.1, ()) h69 d60) (
qA .add s62.2.2.1 (iI 1) fun v71 =>
i48 (v71, s62.2.2.2.1, s62.2.2.2.2.1, s62.2.2.2.2.2.1, s62.2.2.2.2.2.2.1, s62.2.2.2.2.2.2.2.1, s62.2.2.2.2.2.2.2.2.1, s62.2.2.2.2.2.2.2.2.2.1, s62.2.2.2.2.2.2.2.2.2.2.1, ()) h63 d60)) fun j64 =>
jY s58.2.2.1 s58.2.1 3 fun v72 =>
qV v72 0 fun v73 =>
qW h59 v73 fun v74 =>
jY s58.2.2.1 s58.2.1 3 fun v75 =>
qV v75 1 fun v76 =>
qW h59 v76 fun v77 =>
qx c (.fn 23 [] []) [v77] h59 fun v78 h79 =>
qA .add v74 v78 fun v80 =>
qA .lss s58.1 v80 fun v81 =>
jG v81 true (
jy s58.2.2.2.2.1 fun v82 =>
qA .lss s58.1 v82 fun v83 =>
jz v81 v83 (.bool false) fun v84 =>
vE v73 none v74 h59 h79 h59.nx <|
j64 (v84, s58.1, s58.2.1, s58.2.2.1, s58.2.2.2.1, s58.2.2.2.2.1, s58.2.2.2.2.2.1, s58.2.2.2.2.2.2.1, s58.2.2.2.2.2.2.2.1, s58.2.2.2.2.2.2.2.2.1, s58.2.2.2.2.2.2.2.2.2.1, ()) h79) (
jz v81 .undef (.bool false) fun v85 =>
vE v73 none v74 h59 h79 h59.nx <|
j64 (v85, s58.1, s58.2.1, s58.2.2.1, s58.2.2.2.1, s58.2.2.2.2.1, s58.2.2.2.2.2.1, s58.2.2.2.2.2.2.1, s58.2.2.2.2.2.2.2.1, s58.2.2.2.2.2.2.2.2.1, s58.2.2.2.2.2.2.2.2.2.1, ()) h79)) (v57, s51.2.2.1, s51.2.2.2.1, s51.2.2.2.2.1, s51.2.2.2.2.2.1, s51.2.2.2.2.2.2.1, s51.2.2.2.2.2.2.2.1, s51.2.2.2.2.2.2.2.2.1, s51.2.2.2.2.2.2.2.2.2.1, s51.2.2.2.2.2.2.2.2.2.2.1, ()) h52 d47) (
qA .add s51.2.2.2.2.1 (iI 1) fun v86 =>
i15 (v86, s51.2.2.2.2.2.1, s51.2.2.2.2.2.2.1, s51.2.2.2.2.2.2.2.1, s51.2.2.2.2.2.2.2.2.1, s51.2.2.2.2.2.2.2.2.2.1, s51.2.2.2.2.2.2.2.2.2.2.1, ()) h52 d47)) fun j53 =>
jG v50 true (
jy s45.2.1 fun v87 =>
qA .lss s45.1 v87 fun v88 =>
j53 (v88, v50, s45.1, s45.2.1, s45.2.2.1, s45.2.2.2.1, s45.2.2.2.2.1, s45.2.2.2.2.2.1, s45.2.2.2.2.2.2.1, s45.2.2.2.2.2.2.2.1, s45.2.2.2.2.2.2.2.2.1, ()) h46) (
j53 (.undef, v50, s45.1, s45.2.1, s45.2.2.1, s45.2.2.2.1, s45.2.2.2.2.1, s45.2.2.2.2.2.1, s45.2.2.2.2.2.2.1, s45.2.2.2.2.2.2.2.1, s45.2.2.2.2.2.2.2.2.1, ()) h46)) ((iI 0), v41, s28.2.1, s28.2.2.1, s28.2.2.2.1, v35, s28.2.2.2.2.2.1, s28.2.2.2.2.2.2.1, s28.2.2.2.2.2.2.2.1, ()) h40 d30))) fun j31 =>
jy s20.2.2.2.2.2.2.2.2.1 fun v89 =>
qA .lss s20.2.2.1 v89 fun v90 =>
qD v90 (
jY s20.2.2.2.2.2.2.2.2.1 s20.2.2.1 4 fun v91 =>
qu h27 v91 4 fun v92 =>
qx c (.fn 9 [] []) [v92] h27 fun v93 h94 =>
qa h94 v25 v93 4 fun h95 =>
qV v25 1 fun v96 =>
qa h95 v96 (iI 0) 1 fun h97 =>
j31 (v25, s20.2.2.1, s20.2.2.2.1, s20.2.2.2.2.1, s20.2.2.2.2.2.1, s20.2.2.2.2.2.2.1, s20.2.2.2.2.2.2.2.1, s20.2.2.2.2.2.2.2.2.1, ()) h97 d14) (
jy s20.2.2.2.2.2.2.2.2.1 fun v98 =>
qA .sub s20.2.2.1 v98 fun v99 =>
jY s20.2.2.2.2.2.2.2.1 v99 4 fun v100 =>
qu h27 v100 4 fun v101 =>
qx c (.fn 9 [] []) [v101] h27 fun v102 h103 =>
qa h103 v25 v102 4 fun h104 =>
qV v25 1 fun v105 =>
qa h104 v105 (iI 1) 1 fun h106 =>
j31 (v25, s20.2.2.1, s20.2.2.2.1, s20.2.2.2.2.1, s20.2.2.2.2.2.1, s20.2.2.2.2.2.2.1, s20.2.2.2.2.2.2.2.1, s20.2.2.2.2.2.2.2.2.1, ()) h106 d14)) (
qu h21 s20.2.2.2.2.2.2.1 4 fun v107 =>
qx c (.fn 9 [] []) [v107] h21 fun v108 h109 =>
qa h109 s20.2.2.2.2.2.2.1 v108 4 fun h110 =>
qV s20.2.2.2.2.2.2.1 1 fun v111 =>
qa h110 v111 (iI 1) 1 fun h112 =>
qu h112 s20.2.2.2.2.2.2.1 4 fun v113 =>
qx c (.fn 10 [] []) [v113] h112 fun v114 h115 =>
qA .add (iI 6) v114 fun v116 =>
qA .sub v116 (iI 1) fun v117 =>
jY s20.2.2.2.1 v117 1 fun v118 =>
qa h115 v118 (.bool true) 1 fun h119 =>
jy s20.2.2.2.2.2.1 fun v120 =>
qx c (.fn 11 [] []) [v120, (iI 96)] h119 fun v121 h122 =>
pEq .ptr false v121 .nilp fun v123 =>
qD v123 (
qd d14 h122 fun h124 =>
some ((.bool false), h124)) (
qb (α := AV × AV × Unit → AH → List Nat → R) (fun s125 h126 d127 =>
qx c (.fn 15 [] []) [s125.1] h126 fun v129 h130 =>
zM (σ := AV × AV × AV × Unit) NN (fun i134 s131 h132 d133 =>
jy s131.2.1 fun v135 =>
qA .lss s131.1 v135 fun v136 =>
qD v136 (
jY s131.2.1 s131.1 2 fun v137 =>
qV v137 0 fun v138 =>
qW h132 v138 fun v139 =>
qA .lss v139 (iI 1) fun v140 =>
qb (α := AV × AV × AV × AV × AV × Unit → AH → R) (fun s141 h142 =>
jz s141.2.1 (.bool true) s141.1 fun v144 =>
qb (α := AV × AV × AV × AV × AV × Unit → AH → R) (fun s145 h146 =>
jz s145.2.1 (.bool true) s145.1 fun v148 =>
qD v148 (
qd d133 h146 fun h149 =>
some ((.bool false), h149)) (
qA .add s145.2.2.1 (iI 1) fun v150 =>
i134 (v150, s145.2.2.2.1, s145.2.2.2.2.1, ()) h146 d133)) fun j147 =>
jG v144 false (
jY s141.2.2.2.1 s141.2.2.1 2 fun v151 =>
qV v151 0 fun v152 =>
qW h142 v152 fun v153 =>
jY s141.2.2.2.2.1 v153 1 fun v154 =>
qW h142 v154 fun v155 =>
j147 (v155, v144, s141.2.2.1, s141.2.2.2.1, s141.2.2.2.2.1, ()) h142) (
j147 (.undef, v144, s141.2.2.1, s141.2.2.2.1, s141.2.2.2.2.1, ()) h142)) fun j143 =>
jG v140 false (
jY s131.2.1 s131.1 2 fun v156 =>
qV v156 0 fun v157 =>
qW h132 v157 fun v158 =>
jy s131.2.2.1 fun v159 =>
qA .geq v158 v159 fun v160 =>
j143 (v160, v140, s131.1, s131.2.1, s131.2.2.1, ()) h132) (
j143 (.undef, v140, s131.1, s131.2.1, s131.2.2.1, ()) h132)) (
qd d133 h132 fun h161 =>
some ((.bool true), h161))) ((iI 0), v129, s125.2.1, ()) h130 d127) fun j128 =>
zM (σ := AV × AV × AV × AV × AV × AV × Unit) NN (fun i165 s162 h163 d164 =>
qA .lss s162.1 (iI 256) fun v166 =>
qD v166 (
qu h163 s162.2.2.2.2.2.1 4 fun v167 =>
qx c (.fn 13 [] []) [s162.2.1, s162.2.2.1, v167] h163 fun v168 h169 =>
qE v168 0 fun v170 =>
qE v168 1 fun v171 =>
jb h169 42 (.agg [(iI 0), (uU 0)]) fun v172 h173 =>
qa h173 v172 v170 2 fun h174 =>
qA .neq v171 (iI 11) fun v175 =>
qD v175 (
j128 (s162.2.1, s162.2.2.2.1, ()) h174 d164) (
qx c (.fn 19 [] []) [s162.2.1] h174 fun v176 h177 =>
qA .lss v176 (iI 1) fun v178 =>
qb (α := AV × AV × AV × AV × AV × AV × AV × AV × AV × Unit → AH → R) (fun s179 h180 =>
jz s179.2.1 (.bool true) s179.1 fun v182 =>
qb (α := AV × AV × AV × AV × AV × AV × AV × AV × AV × Unit → AH → R) (fun s183 h184 =>
jz s183.2.1 (.bool true) s183.1 fun v186 =>
qb (α := AV × AV × AV × AV × AV × AV × AV × AV × Unit → AH → R) (fun s187 h188 =>
jz s187.2.1 (.bool true) s187.1 fun v190 =>
qD v190 (
qd d164 h188 fun h191 =>
some ((.bool false), h191)) (
qA .add s187.2.2.1 (iI 1) fun v192 =>
i165 (v192, s187.2.2.2.1, s187.2.2.2.2.1, s187.2.2.2.2.2.1, s187.2.2.2.2.2.2.1, s187.2.2.2.2.2.2.2.1, ()) h188 d164)) fun j189 =>
jG v186 false (
jY s183.2.2.2.2.2.2.2.1 s183.2.2.1 1 fun v193 =>
qW h184 v193 fun v194 =>
qx c (.fn 20 [] []) [s183.2.2.2.2.1, s183.2.2.1, v194] h184 fun v195 h196 =>
qA .neq v195 (iI 0) fun v197 =>
j189 (v197, v186, s183.2.2.2.1, s183.2.2.2.2.1, s183.2.2.2.2.2.1, s183.2.2.2.2.2.2.1, s183.2.2.2.2.2.2.2.1, s183.2.2.2.2.2.2.2.2.1, ()) h196) (
j189 (.undef, v186, s183.2.2.2.1, s183.2.2.2.2.1, s183.2.2.2.2.2.1, s183.2.2.2.2.2.2.1, s183.2.2.2.2.2.2.2.1, s183.2.2.2.2.2.2.2.2.1, ()) h184)) fun j185 =>
jG v182 false (
jY s179.2.2.2.2.2.2.1 s179.2.2.1 1 fun v198 =>
qW h180 v198 fun v199 =>
j185 (v199, v182, s179.2.2.1, s179.2.2.2.1, s179.2.2.2.2.1, s179.2.2.2.2.2.1, s179.2.2.2.2.2.2.1, s179.2.2.2.2.2.2.2.1, s179.2.2.2.2.2.2.2.2.1, ()) h180) (
j185 (.undef, v182, s179.2.2.1, s179.2.2.2.1, s179.2.2.2.2.1, s179.2.2.2.2.2.1, s179.2.2.2.2.2.2.1, s179.2.2.2.2.2.2.2.1, s179.2.2.2.2.2.2.2.2.1, ()) h180)) fun j181 =>
jG v178 false (
jy s162.2.2.2.2.1 fun v200 =>
qA .geq v176 v200 fun v201 =>
j181 (v201, v178, v176, s162.1, s162.2.1, s162.2.2.1, s162.2.2.2.1, s162.2.2.2.2.1, s162.2.2.2.2.2.1, ()) h177) (
j181 (.undef, v178, v176, s162.1, s162.2.1, s162.2.2.1, s162.2.2.2.1, s162.2.2.2.2.1, s162.2.2.2.2.2.1, ()) h177))) (
j128 (s162.2.1, s162.2.2.2.1, ()) h163 d164)) ((iI 0), v121, v116, s20.2.2.2.1, s20.2.2.2.2.2.1, s20.2.2.2.2.2.2.1, ()) h122 d14))) fun j22 =>
jG v19 true (
qA .lss s12.1 (iI 24) fun v202 =>
j22 (v202, v19, s12.1, s12.2.1, s12.2.2.1, s12.2.2.2.1, s12.2.2.2.2.1, s12.2.2.2.2.2.1, s12.2.2.2.2.2.2.1, ()) h13) (
j22 (.undef, v19, s12.1, s12.2.1, s12.2.2.1, s12.2.2.2.1, s12.2.2.2.2.1, s12.2.2.2.2.2.1, s12.2.2.2.2.2.2.1, ()) h13)) ((iI 0), v10, v8, v5, v0, a1, a0, ()) h11 [])
theorem S4_eq (c : CV) (a0 a1 a2 : AV) (h : AH) : qH Tryz.prog NN P4 c 4 [a0, a1, a2] h = S4 c a0 a1 a2 h := by kernel_rfl
def W4 : WF := w_3 S4
theorem W4_ok : WOk Tryz.prog 4 W4 := zd (pl := P4) fun _ _ _ _ _ => by rw [S4_eq]
def P6 : Pl := (.n none .z (.n none .z (.n none .z (.n none (.n none .z (.n none (.n (some [2, 1]) (.n none .z (.n none (.n none (.n none .z (.n none (.r [[34, 32, 2, 1]]) .z)) .z) .z)) .z) .z)) (.n none .z (.n none .z (.n none .z (.n none .z (.n none (.r [[61, 59, 13, 11, 10, 9, 8, 7, 5], [65, 63, 13, 11, 10, 9, 8, 7], [69, 67, 13, 11, 10, 9, 7], [74, 71, 13, 11, 10, 9, 7], [81, 76, 13, 11, 10, 9], [85, 83, 13, 11, 10], [88, 87, 13, 11], [92, 90, 13], [96, 94]]) .z)))))))))
def S6 (c : CV) (h : AH) : R :=
qx c (.fn 7 [] []) [(iI 200)] h fun v0 h1 =>
qx c (.fn 12 [] []) [v0, (iI 96)] h1 fun v2 h3 =>
pEq .ptr false v2 .nilp fun v4 =>
qD v4 (
some ((.bool false), h3)) (
zM (σ := AV × AV × Unit) NN (fun i8 s5 h6 d7 =>
qA .leq s5.1 (uU 7) fun v9 =>
qD v9 (
qA .add s5.1 (uU 10) fun v10 =>
qx c (.fn 26 [] []) [s5.2.1, (iI 6), s5.1, v10] h6 fun v11 h12 =>
qE v11 0 fun v13 =>
qE v11 1 fun v14 =>
pUn .not v13 fun v15 =>
qb (α := AV × AV × AV × AV × Unit → AH → R) (fun s16 h17 =>
jz s16.2.1 (.bool true) s16.1 fun v19 =>
qD v19 (
qd d7 h17 fun h20 =>
some ((.bool false), h20)) (
qA .add s16.2.2.1 (uU 1) fun v21 =>
i8 (v21, s16.2.2.2.1, ()) h17 d7)) fun j18 =>
jG v15 false (
qA .neq v14 (iI 0) fun v22 =>
j18 (v22, v15, s5.1, s5.2.1, ()) h12) (
j18 (.undef, v15, s5.1, s5.2.1, ()) h12)) (
qx c (.fn 27 [] []) [s5.2.1, (iI 6)] h6 fun v23 h24 =>
qE v23 0 fun v25 =>
qE v23 1 fun v26 =>
qx c (.fn 28 [] []) [s5.2.1, (iI 6), (uU 3), (uU 5)] h24 fun v27 h28 =>
qE v27 0 fun v29 =>
qE v27 1 fun v30 =>
qx c (.fn 29 [] []) [s5.2.1, (iI 6), (uU 6)] h28 fun v31 h32 =>
qE v31 0 fun v33 =>
qE v31 1 fun v34 =>
qE v31 2 fun v35 =>
qx c (.fn 27 [] []) [s5.2.1, (iI 5)] h32 fun v36 h37 =>
qE v36 0 fun _ =>
qE v36 1 fun v39 =>
qA .eql v26 (iI 0) fun v40 =>
qb (α := AV × AV × AV × AV × AV × AV × AV × AV × AV × Unit → AH → R) (fun s41 h42 =>
jz s41.2.1 s41.1 (.bool false) fun v44 =>
qb (α := AV × AV × AV × AV × AV × AV × AV × AV × Unit → AH → R) (fun s45 h46 =>
jz s45.2.1 s45.1 (.bool false) fun v48 =>
qb (α := AV × AV × AV × AV × AV × AV × AV × Unit → AH → R) (fun s49 h50 =>
jz s49.2.1 s49.1 (.bool false) fun v52 =>
qb (α := AV × AV × AV × AV × AV × AV × AV × Unit → AH → R) (fun s53 h54 =>
jz s53.2.1 s53.1 (.bool false) fun v56 =>
qb (α := AV × AV × AV × AV × AV × AV × Unit → AH → R) (fun s57 h58 =>
jz s57.2.1 s57.1 (.bool false) fun v60 =>
qb (α := AV × AV × AV × AV × AV × Unit → AH → R) (fun s61 h62 =>
jz s61.2.1 s61.1 (.bool false) fun v64 =>
qb (α := AV × AV × AV × AV × Unit → AH → R) (fun s65 h66 =>
jz s65.2.1 s65.1 (.bool false) fun v68 =>
qb (α := AV × AV × AV × Unit → AH → R) (fun s69 h70 =>
jz s69.2.1 s69.1 (.bool false) fun v72 =>
qb (α := AV × AV × Unit → AH → R) (fun s73 h74 =>
jz s73.2.1 s73.1 (.bool false) fun v76 =>
qd d7 h74 fun h77 =>
some (v76, h77)) fun j75 =>
jG v72 true (
qA .eql s69.2.2.1 (iI 2) fun v78 =>
j75 (v78, v72, ()) h70) (
j75 (.undef, v72, ()) h70)) fun j71 =>
jG v68 true (
qA .eql s65.2.2.2.1 (iI 0) fun v79 =>
j71 (v79, v68, s65.2.2.1, ()) h66) (
j71 (.undef, v68, s65.2.2.1, ()) h66)) fun j67 =>
jG v64 true (
j67 (s61.2.2.2.2.1, v64, s61.2.2.1, s61.2.2.2.1, ()) h62) (
j67 (.undef, v64, s61.2.2.1, s61.2.2.2.1, ()) h62)) fun j63 =>
jG v60 true (
qA .eql s57.2.2.2.2.2.1 (uU 16) fun v80 =>
j63 (v80, v60, s57.2.2.1, s57.2.2.2.1, s57.2.2.2.2.1, ()) h58) (
j63 (.undef, v60, s57.2.2.1, s57.2.2.2.1, s57.2.2.2.2.1, ()) h58)) fun j59 =>
jG v56 true (
jY s53.2.2.2.2.2.2.1 (iI 2) 2 fun v81 =>
qu h54 v81 2 fun v82 =>
jW [(uU 0), (uU 0)] [(0, 1, (uU 5)), (1, 1, (uU 15))] fun v83 =>
Jn [.bas .int 0, .bas .int 1] false v82 v83 fun v84 =>
j59 (v84, v56, s53.2.2.1, s53.2.2.2.1, s53.2.2.2.2.1, s53.2.2.2.2.2.1, ()) h54) (
j59 (.undef, v56, s53.2.2.1, s53.2.2.2.1, s53.2.2.2.2.1, s53.2.2.2.2.2.1, ()) h54)) fun j55 =>
jG v52 true (
jy s49.2.2.2.2.2.2.1 fun v85 =>
qA .eql v85 (iI 3) fun v86 =>
j55 (v86, v52, s49.2.2.1, s49.2.2.2.1, s49.2.2.2.2.1, s49.2.2.2.2.2.1, s49.2.2.2.2.2.2.1, ()) h50) (
j55 (.undef, v52, s49.2.2.1, s49.2.2.2.1, s49.2.2.2.2.1, s49.2.2.2.2.2.1, s49.2.2.2.2.2.2.1, ()) h50)) fun j51 =>
jG v48 true (
qA .eql s45.2.2.2.2.2.2.1 (iI 0) fun v87 =>
j51 (v87, v48, s45.2.2.1, s45.2.2.2.1, s45.2.2.2.2.1, s45.2.2.2.2.2.1, s45.2.2.2.2.2.2.2.1, ()) h46) (
j51 (.undef, v48, s45.2.2.1, s45.2.2.2.1, s45.2.2.2.2.1, s45.2.2.2.2.2.1, s45.2.2.2.2.2.2.2.1, ()) h46)) fun j47 =>
jG v44 true (
qA .leq s41.2.2.2.2.2.2.2.2.1 (iI 6) fun v88 =>
j47 (v88, v44, s41.2.2.1, s41.2.2.2.1, s41.2.2.2.2.1, s41.2.2.2.2.2.1, s41.2.2.2.2.2.2.1, s41.2.2.2.2.2.2.2.1, ()) h42) (
j47 (.undef, v44, s41.2.2.1, s41.2.2.2.1, s41.2.2.2.2.1, s41.2.2.2.2.2.1, s41.2.2.2.2.2.2.1, s41.2.2.2.2.2.2.2.1, ()) h42)) fun j43 =>
jG v40 true (
qA .geq v25 (iI 3) fun v89 =>
j43 (v89, v40, v39, v35, v34, v33, v30, v29, v25, ()) h37) (
j43 (.undef, v40, v39, v35, v34, v33, v30, v29, v25, ()) h37))) ((uU 1), v2, ()) h3 [])
theorem S6_eq (c : CV) (h : AH) : qH Tryz.prog NN P6 c 6 [] h = S6 c h := by kernel_rfl
def W6 : WF := w_0 S6
theorem W6_ok : WOk Tryz.prog 6 W6 := qJU (pl := P6) fun _ _ => by rw [S6_eq]
def P7 : Pl := .z
def S7 (_ : CV) (a0 : AV) (h : AH) : R :=
pMM false [a0, (iI 256)] fun v0 =>
pMM true [(iI 32), v0] fun v1 =>
vL h 23 [(uU 0)] v1 v1 fun v2 h3 =>
jY v2 (iI 5) 1 fun v4 =>
qa h3 v4 (uU 14) 1 fun h5 =>
some (v2, h5)
theorem S7_eq (c : CV) (a0 : AV) (h : AH) : qH Tryz.prog NN P7 c 7 [a0] h = S7 c a0 h := by kernel_rfl
def W7 : WF := w_1 S7
theorem W7_ok : WOk Tryz.prog 7 W7 := j0 (pl := P7) fun _ _ _ => by rw [S7_eq]
def P8 : Pl := (.n none .z (.n none .z (.n none .z (.n none .z (.n none .z (.n none (.n none (.r [[38, 35, 11, 10, 9, 8, 5, 1, 0], [48, 40, 11, 10, 9, 8, 5, 1, 0]]) (.n none (.n none (.r [[59, 55, 50, 8], [64, 61, 50]]) .z) .z)) (.n none .z (.n none (.n none (.r [[76, 74, 13, 12, 10, 9, 8, 5, 1, 0], [79, 76, 74, 13, 10, 9, 8, 5, 1, 0], [80, 74, 13, 10, 9, 8, 5, 1, 0], [85, 82, 10, 9, 8, 5, 1, 0], [88, 85, 82, 9, 8, 5, 1, 0], [89, 82, 9, 8, 5, 1, 0], [94, 91, 9, 8, 5, 1, 0]]) .z) (.n none .z (.n none .z (.n none (.n none (.r [[109, 107, 15, 9, 5, 1, 0]]) .z) (.n none .z (.n none (.r [[130, 121, 118, 15], [136, 132, 118]]) .z)))))))))))))
def S8 (c : CV) (a0 a1 a2 : AV) (h : AH) : R :=
jb h 25 a2 fun v0 h1 =>
qx c (.fn 12 [] []) [a0, (iI 96)] h1 fun v2 h3 =>
pEq .ptr false v2 .nilp fun v4 =>
qD v4 (
some ((.tup [a0, (.bool false)]), h3)) (
qu h3 v0 4 fun v5 =>
qx c (.fn 10 [] []) [v5] h3 fun v6 h7 =>
qA .add (iI 6) v6 fun v8 =>
qu h7 v0 4 fun v9 =>
qx c (.fn 13 [] []) [v2, v8, v9] h7 fun v10 h11 =>
qE v10 0 fun v12 =>
qE v10 1 fun v13 =>
jb h11 42 (.agg [(iI 0), (uU 0)]) fun v14 h15 =>
qa h15 v14 v12 2 fun h16 =>
qA .eql v13 (iI 4) fun v17 =>
qb (α := AV × AV × AV × AV × AV × AV × AV × AV × AV × Unit → AH → R) (fun s18 h19 =>
jz s18.2.1 s18.1 (.bool false) fun v21 =>
qb (α := AV × AV × AV × AV × AV × AV × AV × AV × AV × Unit → AH → R) (fun s22 h23 =>
jz s22.2.1 s22.1 (.bool false) fun v25 =>
qD v25 (
qx c (.fn 15 [] []) [s22.2.2.2.2.2.1] h23 fun v26 h27 =>
jy v26 fun v28 =>
qA .eql v28 (iI 0) fun v29 =>
qb (α := AV × AV × AV × AV × Unit → AH → R) (fun s30 h31 =>
jz s30.2.1 s30.1 (.bool false) fun v33 =>
qb (α := AV × AV × AV × Unit → AH → R) (fun s34 h35 =>
jz s34.2.1 s34.1 (.bool false) fun v37 =>
some ((.tup [s34.2.2.1, v37]), h35)) fun j36 =>
jG v33 true (
qx c (.fn 18 [] []) [s30.2.2.2.1] h31 fun v38 h39 =>
qA .eql v38 (iI 1) fun v40 =>
j36 (v40, v33, s30.2.2.1, ()) h39) (
j36 (.undef, v33, s30.2.2.1, ()) h31)) fun j32 =>
jG v29 true (
qx c (.fn 17 [] []) [s22.2.2.2.2.2.1] h27 fun v41 h42 =>
jy v41 fun v43 =>
qA .eql v43 (iI 0) fun v44 =>
j32 (v44, v29, s22.2.2.2.2.2.2.2.2.1, s22.2.2.2.2.2.1, ()) h42) (
j32 (.undef, v29, s22.2.2.2.2.2.2.2.2.1, s22.2.2.2.2.2.1, ()) h27)) (
qu h23 s22.2.2.2.2.2.2.1 4 fun v45 =>
qx c (.fn 30 [] []) [s22.2.2.2.2.2.2.2.1, v45] h23 fun v46 h47 =>
qE v46 0 fun v48 =>
qE v46 1 fun v49 =>
jb h47 42 (.agg [(iI 0), (uU 0)]) fun v50 h51 =>
qa h51 v50 v48 2 fun h52 =>
qA .neq s22.2.2.1 (iI 0) fun v53 =>
qb (α := AV × AV × AV × AV × AV × AV × AV × AV × AV × AV × Unit → AH → R) (fun s54 h55 =>
qb (α := AV × AV × AV × AV × AV × AV × AV × AV × AV × AV × Unit → AH → R) (fun s57 h58 =>
qb (α := AV × AV × AV × AV × AV × AV × AV × AV × AV × Unit → AH → R) (fun s60 h61 =>
jz s60.2.1 (.bool true) s60.1 fun v63 =>
qb (α := AV × AV × AV × AV × AV × AV × AV × AV × Unit → AH → R) (fun s64 h65 =>
qb (α := AV × AV × AV × AV × AV × AV × AV × AV × Unit → AH → R) (fun s67 h68 =>
qb (α := AV × AV × AV × AV × AV × AV × AV × Unit → AH → R) (fun s70 h71 =>
jz s70.2.1 (.bool true) s70.1 fun v73 =>
qb (α := AV × AV × AV × AV × AV × AV × AV × Unit → AH → R) (fun s74 h75 =>
jz s74.2.1 (.bool true) s74.1 fun v77 =>
qD v77 (
some ((.tup [s74.2.2.2.2.2.2.1, (.bool false)]), h75)) (
qx c (.fn 31 [] []) [s74.2.2.2.2.2.2.1, s74.2.2.2.1] h75 fun v78 h79 =>
qE v78 0 fun v80 =>
qE v78 1 fun v81 =>
qx c (.fn 12 [] []) [v80, (iI 96)] h79 fun v82 h83 =>
pUn .not v81 fun v84 =>
qb (α := AV × AV × AV × AV × AV × AV × AV × Unit → AH → R) (fun s85 h86 =>
jz s85.2.1 (.bool true) s85.1 fun v88 =>
qD v88 (
some ((.tup [s85.2.2.2.2.2.2.1, (.bool false)]), h86)) (
qx c (.fn 32 [] []) [s85.2.2.1, s85.2.2.2.1] h86 fun v89 h90 =>
qE v89 0 fun v91 =>
qE v89 1 fun v92 =>
qA .eql v92 (iI 0) fun v93 =>
qb (α := AV × AV × AV × AV × Unit → AH → R) (fun s94 h95 =>
jz s94.2.1 s94.1 (.bool false) fun v97 =>
qb (α := AV × AV × AV × Unit → AH → R) (fun s98 h99 =>
jz s98.2.1 s98.1 (.bool false) fun v101 =>
some ((.tup [s98.2.2.1, v101]), h99)) fun j100 =>
jG v97 true (
qx c (.fn 15 [] []) [s94.2.2.2.1] h95 fun v102 h103 =>
jy v102 fun v104 =>
qA .eql v104 (iI 0) fun v105 =>
j100 (v105, v97, s94.2.2.1, ()) h103) (
j100 (.undef, v97, s94.2.2.1, ()) h95)) fun j96 =>
jG v93 true (
qu h90 s85.2.2.2.2.1 4 fun v106 =>
qx c (.fn 10 [] []) [v106] h90 fun v107 h108 =>
qe s85.2.2.2.2.2.1 fun v109 =>
qV v109 0 fun v110 =>
ze v110 v107 8 1 fun v111 =>
qW h108 v111 fun v112 =>
qx c (.fn 33 [] []) [v91, v112] h108 fun v113 h114 =>
j96 (v113, v93, s85.2.2.2.2.2.2.1, s85.2.2.1, ()) h114) (
j96 (.undef, v93, s85.2.2.2.2.2.2.1, s85.2.2.1, ()) h90))) fun j87 =>
jG v84 false (
pEq .ptr false v82 .nilp fun v115 =>
j87 (v115, v84, v82, s74.2.2.1, s74.2.2.2.2.1, s74.2.2.2.2.2.1, v80, ()) h83) (
j87 (.undef, v84, v82, s74.2.2.1, s74.2.2.2.2.1, s74.2.2.2.2.2.1, v80, ()) h83))) fun j76 =>
jG v73 false (
qx c (.fn 18 [] []) [s70.2.2.2.1] h71 fun v116 h117 =>
qA .neq v116 (iI 1) fun v118 =>
j76 (v118, v73, s70.2.2.1, s70.2.2.2.1, s70.2.2.2.2.1, s70.2.2.2.2.2.1, s70.2.2.2.2.2.2.1, ()) h117) (
j76 (.undef, v73, s70.2.2.1, s70.2.2.2.1, s70.2.2.2.2.1, s70.2.2.2.2.2.1, s70.2.2.2.2.2.2.1, ()) h71)) fun j72 =>
jG s67.2.2.1 false (
jz s67.2.1 s67.1 (.bool false) fun v119 =>
j72 (v119, s67.2.2.1, s67.2.2.2.1, s67.2.2.2.2.1, s67.2.2.2.2.2.1, s67.2.2.2.2.2.2.1, s67.2.2.2.2.2.2.2.1, ()) h68) (
j72 (.undef, s67.2.2.1, s67.2.2.2.1, s67.2.2.2.2.1, s67.2.2.2.2.2.1, s67.2.2.2.2.2.2.1, s67.2.2.2.2.2.2.2.1, ()) h68)) fun j69 =>
jG s64.1 true (
qu h65 s64.2.2.1 2 fun v120 =>
jW [(iI 0), (uU 0)] [] fun v121 =>
Jn [.bas .int 0, .bas .int 1] true v120 v121 fun v122 =>
j69 (v122, s64.1, s64.2.1, s64.2.2.2.1, s64.2.2.2.2.1, s64.2.2.2.2.2.1, s64.2.2.2.2.2.2.1, s64.2.2.2.2.2.2.2.1, ()) h65) (
j69 (.undef, s64.1, s64.2.1, s64.2.2.2.1, s64.2.2.2.2.1, s64.2.2.2.2.2.1, s64.2.2.2.2.2.2.1, s64.2.2.2.2.2.2.2.1, ()) h65)) fun j66 =>
jG v63 false (
pUn .not s60.2.2.1 fun v123 =>
j66 (v123, v63, s60.2.2.2.1, s60.2.2.2.2.1, s60.2.2.2.2.2.1, s60.2.2.2.2.2.2.1, s60.2.2.2.2.2.2.2.1, s60.2.2.2.2.2.2.2.2.1, ()) h61) (
j66 (.undef, v63, s60.2.2.2.1, s60.2.2.2.2.1, s60.2.2.2.2.2.1, s60.2.2.2.2.2.2.1, s60.2.2.2.2.2.2.2.1, s60.2.2.2.2.2.2.2.2.1, ()) h61)) fun j62 =>
jG s57.2.2.1 false (
jz s57.2.1 s57.1 (.bool false) fun v124 =>
j62 (v124, s57.2.2.1, s57.2.2.2.1, s57.2.2.2.2.1, s57.2.2.2.2.2.1, s57.2.2.2.2.2.2.1, s57.2.2.2.2.2.2.2.1, s57.2.2.2.2.2.2.2.2.1, s57.2.2.2.2.2.2.2.2.2.1, ()) h58) (
j62 (.undef, s57.2.2.1, s57.2.2.2.1, s57.2.2.2.2.1, s57.2.2.2.2.2.1, s57.2.2.2.2.2.2.1, s57.2.2.2.2.2.2.2.1, s57.2.2.2.2.2.2.2.2.1, s57.2.2.2.2.2.2.2.2.2.1, ()) h58)) fun j59 =>
jG s54.1 true (
qu h55 s54.2.2.2.2.1 2 fun v125 =>
qu h55 s54.2.2.2.1 2 fun v126 =>
Jn [.bas .int 0, .bas .int 1] true v125 v126 fun v127 =>
j59 (v127, s54.1, s54.2.1, s54.2.2.1, s54.2.2.2.2.1, s54.2.2.2.2.2.1, s54.2.2.2.2.2.2.1, s54.2.2.2.2.2.2.2.1, s54.2.2.2.2.2.2.2.2.1, s54.2.2.2.2.2.2.2.2.2.1, ()) h55) (
j59 (.undef, s54.1, s54.2.1, s54.2.2.1, s54.2.2.2.2.1, s54.2.2.2.2.2.1, s54.2.2.2.2.2.2.1, s54.2.2.2.2.2.2.2.1, s54.2.2.2.2.2.2.2.2.1, s54.2.2.2.2.2.2.2.2.2.1, ()) h55)) fun j56 =>
jG v53 false (
j56 (v49, v53, v49, v50, s22.2.2.2.1, s22.2.2.2.2.1, s22.2.2.2.2.2.1, s22.2.2.2.2.2.2.1, s22.2.2.2.2.2.2.2.1, s22.2.2.2.2.2.2.2.2.1, ()) h52) (
j56 (.undef, v53, v49, v50, s22.2.2.2.1, s22.2.2.2.2.1, s22.2.2.2.2.2.1, s22.2.2.2.2.2.2.1, s22.2.2.2.2.2.2.2.1, s22.2.2.2.2.2.2.2.2.1, ()) h52))) fun j24 =>
jG v21 true (
jY s18.2.2.2.2.2.2.2.2.1 (iI 5) 1 fun v128 =>
qW h19 v128 fun v129 =>
qA .add v129 (uU 40) fun v130 =>
jy s18.2.2.2.2.2.2.2.2.1 fun v131 =>
zH .u64 v131 fun v132 =>
qA .gtr v130 v132 fun v133 =>
j24 (v133, v21, s18.2.2.1, s18.2.2.2.1, s18.2.2.2.2.1, s18.2.2.2.2.2.1, s18.2.2.2.2.2.2.1, s18.2.2.2.2.2.2.2.1, s18.2.2.2.2.2.2.2.2.1, ()) h19) (
j24 (.undef, v21, s18.2.2.1, s18.2.2.2.1, s18.2.2.2.2.1, s18.2.2.2.2.2.1, s18.2.2.2.2.2.2.1, s18.2.2.2.2.2.2.2.1, s18.2.2.2.2.2.2.2.2.1, ()) h19)) fun j20 =>
jG v17 true (
jy a0 fun v134 =>
qA .gtr v134 (iI 5) fun v135 =>
j20 (v135, v17, v13, v14, v8, v2, v0, a1, a0, ()) h16) (
j20 (.undef, v17, v13, v14, v8, v2, v0, a1, a0, ()) h16))
theorem S8_eq (c : CV) (a0 a1 a2 : AV) (h : AH) : qH Tryz.prog NN P8 c 8 [a0, a1, a2] h = S8 c a0 a1 a2 h := by kernel_rfl
def W8 : WF := w_3 S8
theorem W8_ok : WOk Tryz.prog 8 W8 := zd (pl := P8) fun _ _ _ _ _ => by rw [S8_eq]
def P9 : Pl := .z
def S9 (c : CV) (a0 : AV) (h : AH) : R :=
jb h 25 a0 fun v0 h1 =>
jb h1 25 (.agg [(iI 0), (iI 0), (uU 0), (uU 0)]) fun v2 h3 =>
qV v0 0 fun v4 =>
qW h3 v4 fun v5 =>
qx c (.fn 34 [] []) [v5, (iI 9), (iI 12)] h3 fun v6 h7 =>
qV v0 0 fun v8 =>
qa h7 v8 v6 1 fun h9 =>
qu h9 v0 4 fun v10 =>
qa h9 v2 v10 4 fun h11 =>
qu h11 v2 4 fun v12 =>
some (v12, h11)
theorem S9_eq (c : CV) (a0 : AV) (h : AH) : qH Tryz.prog NN P9 c 9 [a0] h = S9 c a0 h := by kernel_rfl
def W9 : WF := w_1 S9
theorem W9_ok : WOk Tryz.prog 9 W9 := j0 (pl := P9) fun _ _ _ => by rw [S9_eq]
def P10 : Pl := .z
def S10 (c : CV) (a0 : AV) (h : AH) : R :=
jb h 25 a0 fun v0 h1 =>
jW [(iI 0), (iI 0), (iI 0), (iI 0), (iI 0), (iI 0), (iI 0), (iI 0), (iI 0), (iI 0), (iI 0), (iI 0), (iI 0)] [(0, 1, (iI 0)), (1, 1, (iI 0)), (2, 1, (iI 0)), (3, 1, (iI 0)), (4, 1, (iI 1)), (5, 1, (iI 1)), (6, 1, (iI 1)), (7, 1, (iI 2)), (8, 1, (iI 2)), (9, 1, (iI 3)), (10, 1, (iI 3)), (11, 1, (iI 3)), (12, 1, (iI 3))] fun v2 =>
qu h1 v0 4 fun v3 =>
qx c (.fn 35 [] []) [v3] h1 fun v4 h5 =>
QU v2 v4 13 1 fun v6 =>
qA .mul (iI 2) v6 fun v7 =>
qV v0 1 fun v8 =>
qW h5 v8 fun v9 =>
qx c (.fn 34 [] []) [v9, (iI 0), (iI 1)] h5 fun v10 h11 =>
qA .add v7 v10 fun v12 =>
some (v12, h11)
theorem S10_eq (c : CV) (a0 : AV) (h : AH) : qH Tryz.prog NN P10 c 10 [a0] h = S10 c a0 h := by kernel_rfl
def W10 : WF := w_1 S10
theorem W10_ok : WOk Tryz.prog 10 W10 := j0 (pl := P10) fun _ _ _ => by rw [S10_eq]
def P11 : Pl := .z
def S11 (c : CV) (a0 a1 : AV) (h : AH) : R :=
pMM false [a0, (iI 256)] fun v0 =>
pMM true [(iI 32), v0] fun v1 =>
vL h 95 [(uU 0), (.bool false)] v1 v1 fun v2 h3 =>
qx c (.fn 36 [] []) [a1] h3 fun v4 h5 =>
jW [.nils, .nils, .nilp, (iI 0)] [(0, 1, v2), (2, 1, v4)] fun v6 =>
jb h5 90 v6 fun v7 h8 =>
some (v7, h8)
theorem S11_eq (c : CV) (a0 a1 : AV) (h : AH) : qH Tryz.prog NN P11 c 11 [a0, a1] h = S11 c a0 a1 h := by kernel_rfl
def W11 : WF := w_2 S11
theorem W11_ok : WOk Tryz.prog 11 W11 := je (pl := P11) fun _ _ _ _ => by rw [S11_eq]
def P12 : Pl := (.n none .z (.n none .z (.n none (.n none .z (.n none (.n (some [6, 5, 0]) (.n none .z (.n none (.n none (.n none .z (.n (some [7, 6, 5, 0]) .z .z)) .z) .z)) .z) .z)) .z)))
def S12 (c : CV) (a0 a1 : AV) (h : AH) : R :=
jy a0 fun v0 =>
qx c (.fn 11 [] []) [v0, a1] h fun v1 h2 =>
zM (σ := AV × AV × AV × Unit) NN (fun i6 s3 h4 d5 =>
qx c (.fn 37 [] []) [s3.2.1] h4 fun v7 h8 =>
qA .lss s3.1 v7 fun v9 =>
qD v9 (
qb (α := AV × AV × AV × AV × Unit → AH → List Nat → R) (fun s10 h11 d12 =>
qx c (.fn 20 [] []) [s10.2.2.1, s10.2.1, s10.1] h11 fun _ h15 =>
qA .add s10.2.1 (iI 1) fun v16 =>
i6 (v16, s10.2.2.1, s10.2.2.2.1, ()) h15 d12) fun j13 =>
jy s3.2.2.1 fun v17 =>
qA .lss s3.1 v17 fun v18 =>
qD v18 (
jY s3.2.2.1 s3.1 1 fun v19 =>
qW h8 v19 fun v20 =>
j13 (v20, s3.1, s3.2.1, s3.2.2.1, ()) h8 d5) (
j13 ((uU 0), s3.1, s3.2.1, s3.2.2.1, ()) h8 d5)) (
qd d5 h8 fun h21 =>
some (s3.2.1, h21))) ((iI 1), v1, a0, ()) h2 []
theorem S12_eq (c : CV) (a0 a1 : AV) (h : AH) : qH Tryz.prog NN P12 c 12 [a0, a1] h = S12 c a0 a1 h := by kernel_rfl
def W12 : WF := w_2 S12
theorem W12_ok : WOk Tryz.prog 12 W12 := je (pl := P12) fun _ _ _ _ => by rw [S12_eq]
def P13 : Pl := (.n none .z (.n none .z (.n none (.n none .z (.n (some [9, 8, 6]) (.n none .z (.n none (.r [[9, 8, 6]]) (.n none .z (.n none .z (.n none .z (.n none .z (.n none (.r [[14, 13, 6]]) .z))))))) .z)) .z)))
def S13 (c : CV) (a0 a1 a2 : AV) (h : AH) : R :=
jb h 25 a2 fun v0 h1 =>
jb h1 42 (.agg [(iI 0), (uU 0)]) fun v2 h3 =>
qu h3 v0 4 fun v4 =>
qx c (.fn 35 [] []) [v4] h3 fun v5 h6 =>
qb (α := AV × AV × AV × Unit → AH → List Nat → R) (fun s7 h8 d9 =>
qD s7.2.1 (
jW [(iI 0), (uU 0)] [(0, 1, (iI 2)), (1, 1, (uU 1))] fun v11 =>
qa h8 s7.2.2.1 v11 2 fun h12 =>
qd d9 h12 fun h13 =>
qu h13 s7.2.2.1 2 fun v14 =>
some ((.tup [v14, s7.1]), h13)) (
jW [(iI 0), (uU 0)] [(0, 1, (iI 2))] fun v15 =>
qa h8 s7.2.2.1 v15 2 fun h16 =>
qd d9 h16 fun h17 =>
qu h17 s7.2.2.1 2 fun v18 =>
some ((.tup [v18, s7.1]), h17))) fun j10 =>
qA .eql v5 (iI 9) fun v19 =>
qD v19 (
qb (α := AV × AV × AV × Unit → AH → R) (fun s20 h21 =>
j10 (s20.1, s20.2.1, s20.2.2.1, ()) h21 []) fun j22 =>
qu h6 v0 4 fun v23 =>
qx c (.fn 38 [] []) [v23] h6 fun v24 h25 =>
qu h25 v0 4 fun v26 =>
qx c (.fn 39 [] []) [v26] h25 fun v27 h28 =>
qx c (.fn 26 [] []) [a0, a1, v24, v27] h28 fun v29 h30 =>
qE v29 0 fun v31 =>
qE v29 1 fun v32 =>
vE v0 (some 4) v26 h6 h25 h6.nx <|
j22 (v32, v31, v2, ()) h30) (
qA .eql v5 (iI 10) fun v33 =>
qD v33 (
qu h6 v0 4 fun v34 =>
qx c (.fn 38 [] []) [v34] h6 fun v35 h36 =>
qx c (.fn 29 [] []) [a0, a1, v35] h36 fun v37 h38 =>
qE v37 0 fun v39 =>
qE v37 1 fun v40 =>
qE v37 2 fun v41 =>
pUn .not v40 fun v42 =>
qD v42 (
jW [(iI 0), (uU 0)] [(0, 1, (iI 3)), (1, 1, v39)] fun v43 =>
qa h38 v2 v43 2 fun h44 =>
qu h44 v2 2 fun v45 =>
some ((.tup [v45, v41]), h44)) (
jW [(iI 0), (uU 0)] [(0, 1, (iI 1)), (1, 1, v39)] fun v46 =>
qa h38 v2 v46 2 fun h47 =>
qu h47 v2 2 fun v48 =>
some ((.tup [v48, v41]), h47))) (
qA .eql v5 (iI 11) fun v49 =>
qD v49 (
qu h6 v0 4 fun v50 =>
qx c (.fn 38 [] []) [v50] h6 fun v51 h52 =>
qx c (.fn 40 [] []) [a0, a1, v51] h52 fun v53 h54 =>
qE v53 0 fun v55 =>
qE v53 1 fun v56 =>
j10 (v56, v55, v2, ()) h54 []) (
qb (α := AV × AV × AV × Unit → AH → R) (fun s57 h58 =>
jy s57.2.1 fun v60 =>
zH .u64 v60 fun v61 =>
jW [(iI 0), (uU 0)] [(0, 1, (iI 1)), (1, 1, v61)] fun v62 =>
qa h58 s57.2.2.1 v62 2 fun h63 =>
qu h63 s57.2.2.1 2 fun v64 =>
some ((.tup [v64, s57.1]), h63)) fun j59 =>
qu h6 v0 4 fun v65 =>
qx c (.fn 38 [] []) [v65] h6 fun v66 h67 =>
qu h67 v0 4 fun v68 =>
qx c (.fn 39 [] []) [v68] h67 fun v69 h70 =>
qx c (.fn 28 [] []) [a0, a1, v66, v69] h70 fun v71 h72 =>
qE v71 0 fun v73 =>
qE v71 1 fun v74 =>
vE v0 (some 4) v68 h6 h67 h6.nx <|
j59 (v74, v73, v2, ()) h72)))
theorem S13_eq (c : CV) (a0 a1 a2 : AV) (h : AH) : qH Tryz.prog NN P13 c 13 [a0, a1, a2] h = S13 c a0 a1 a2 h := by kernel_rfl
def W13 : WF := w_3 S13
theorem W13_ok : WOk Tryz.prog 13 W13 := zd (pl := P13) fun _ _ _ _ _ => by rw [S13_eq]
def P15 : Pl := .z
def S15 (c : CV) (a0 : AV) (h : AH) : R :=
qe a0 fun v0 =>
qV v0 2 fun v1 =>
qW h v1 fun v2 =>
qx c (.fn 41 [] []) [v2] h fun v3 h4 =>
some (v3, h4)
theorem S15_eq (c : CV) (a0 : AV) (h : AH) : qH Tryz.prog NN P15 c 15 [a0] h = S15 c a0 h := by kernel_rfl
def W15 : WF := w_1 S15
theorem W15_ok : WOk Tryz.prog 15 W15 := j0 (pl := P15) fun _ _ _ => by rw [S15_eq]
def P17 : Pl := .z
def S17 (c : CV) (a0 : AV) (h : AH) : R :=
qe a0 fun v0 =>
qV v0 2 fun v1 =>
qW h v1 fun v2 =>
qx c (.fn 42 [] []) [v2] h fun v3 h4 =>
some (v3, h4)
theorem S17_eq (c : CV) (a0 : AV) (h : AH) : qH Tryz.prog NN P17 c 17 [a0] h = S17 c a0 h := by kernel_rfl
def W17 : WF := w_1 S17
theorem W17_ok : WOk Tryz.prog 17 W17 := j0 (pl := P17) fun _ _ _ => by rw [S17_eq]
def P18 : Pl := .z
def S18 (c : CV) (a0 : AV) (h : AH) : R :=
qe a0 fun v0 =>
qV v0 2 fun v1 =>
qW h v1 fun v2 =>
qx c (.fn 43 [] []) [v2] h fun v3 h4 =>
some (v3, h4)
theorem S18_eq (c : CV) (a0 : AV) (h : AH) : qH Tryz.prog NN P18 c 18 [a0] h = S18 c a0 h := by kernel_rfl
def W18 : WF := w_1 S18
theorem W18_ok : WOk Tryz.prog 18 W18 := j0 (pl := P18) fun _ _ _ => by rw [S18_eq]
def P19 : Pl := .z
def S19 (_ : CV) (a0 : AV) (h : AH) : R :=
qe a0 fun v0 =>
qV v0 3 fun v1 =>
qW h v1 fun v2 =>
some (v2, h)
theorem S19_eq (c : CV) (a0 : AV) (h : AH) : qH Tryz.prog NN P19 c 19 [a0] h = S19 c a0 h := by kernel_rfl
def W19 : WF := w_1 S19
theorem W19_ok : WOk Tryz.prog 19 W19 := j0 (pl := P19) fun _ _ _ => by rw [S19_eq]
def P20 : Pl := .z
def S20 (c : CV) (a0 a1 a2 : AV) (h : AH) : R :=
qx c (.fn 44 [] []) [a0, a1] h fun v0 h1 =>
pUn .not v0 fun v2 =>
qD v2 (
some ((iI 2), h1)) (
qe a0 fun v3 =>
qV v3 0 fun v4 =>
qW h1 v4 fun v5 =>
jY v5 a1 2 fun v6 =>
qu h1 v6 2 fun v7 =>
jb h1 95 (.agg [(uU 0), (.bool false)]) fun v8 h9 =>
qa h9 v8 v7 2 fun h10 =>
qV v8 1 fun v11 =>
qW h10 v11 fun v12 =>
qD v12 (
qV v8 0 fun v13 =>
qW h10 v13 fun v14 =>
qA .neq v14 a2 fun v15 =>
qD v15 (
some ((iI 14), h10)) (
some ((iI 0), h10))) (
qe a0 fun v16 =>
qV v16 0 fun v17 =>
qW h10 v17 fun v18 =>
jW [(uU 0), (.bool false)] [(0, 1, a2), (1, 1, (.bool true))] fun v19 =>
jY v18 a1 2 fun v20 =>
qa h10 v20 v19 2 fun h21 =>
qe a0 fun v22 =>
qV v22 1 fun v23 =>
qW h21 v23 fun v24 =>
jr h21 3 [(iI 0)] 1 [(0, 1, a1)] fun v25 h26 =>
jp h26 3 1 v24 v25 fun v27 h28 =>
qe a0 fun v29 =>
qV v29 1 fun v30 =>
qa h28 v30 v27 1 fun h31 =>
some ((iI 0), h31)))
theorem S20_eq (c : CV) (a0 a1 a2 : AV) (h : AH) : qH Tryz.prog NN P20 c 20 [a0, a1, a2] h = S20 c a0 a1 a2 h := by kernel_rfl
def W20 : WF := w_3 S20
theorem W20_ok : WOk Tryz.prog 20 W20 := zd (pl := P20) fun _ _ _ _ _ => by rw [S20_eq]
def P21 : Pl := (.n none .z (.n none .z (.n none (.n none .z (.n none (.n (some [17, 16, 15, 3, 0]) .z .z) .z)) .z)))
def S21 (_ : CV) (a0 : AV) (h : AH) : R :=
qe a0 fun v0 =>
qV v0 1 fun v1 =>
qW h v1 fun v2 =>
jy v2 fun v3 =>
vL h 48 [(iI 0), (uU 0)] (iI 0) v3 fun v4 h5 =>
qe a0 fun v6 =>
qV v6 1 fun v7 =>
qW h5 v7 fun v8 =>
jy v8 fun v9 =>
zM (σ := AV × AV × AV × AV × AV × Unit) NN (fun i13 s10 h11 d12 =>
qA .lss s10.1 s10.2.1 fun v14 =>
qD v14 (
jY s10.2.2.1 s10.1 1 fun v15 =>
qW h11 v15 fun v16 =>
qe s10.2.2.2.2.1 fun v17 =>
qV v17 0 fun v18 =>
qW h11 v18 fun v19 =>
jY v19 v16 2 fun v20 =>
qV v20 0 fun v21 =>
qW h11 v21 fun v22 =>
jW [(iI 0), (uU 0)] [(0, 1, v16), (1, 1, v22)] fun v23 =>
jr h11 48 [(iI 0), (uU 0)] 1 [(0, 2, v23)] fun v24 h25 =>
jp h25 48 2 s10.2.2.2.1 v24 fun v26 h27 =>
qA .add s10.1 (iI 1) fun v28 =>
i13 (v28, s10.2.1, s10.2.2.1, v26, s10.2.2.2.2.1, ()) h27 d12) (
qd d12 h11 fun h29 =>
some (s10.2.2.2.1, h29))) ((iI 0), v9, v8, v4, a0, ()) h5 []
theorem S21_eq (c : CV) (a0 : AV) (h : AH) : qH Tryz.prog NN P21 c 21 [a0] h = S21 c a0 h := by kernel_rfl
def W21 : WF := w_1 S21
theorem W21_ok : WOk Tryz.prog 21 W21 := j0 (pl := P21) fun _ _ _ => by rw [S21_eq]
def P22 : Pl := (.n none .z (.n none .z (.n none (.n none (.r [[17, 15, 4, 0], [23, 19, 4, 0], [31, 25, 0]]) .z) (.n none .z (.n none .z (.n none (.n none .z (.n none (.n (some [7, 6, 5, 0]) (.n none .z (.n none (.n none .z (.n none .z (.n none (.n none (.r [[58, 55, 10, 9, 8, 7, 6, 5, 0]]) .z) .z))) .z)) .z) .z)) .z))))))
def S22 (c : CV) (a0 : AV) (h : AH) : R :=
jy a0 fun v0 =>
qA .lss v0 (iI 32) fun v1 =>
qb (α := AV × AV × AV × AV × Unit → AH → R) (fun s2 h3 =>
jz s2.2.1 (.bool true) s2.1 fun v5 =>
qb (α := AV × AV × AV × AV × Unit → AH → R) (fun s6 h7 =>
jz s6.2.1 (.bool true) s6.1 fun v9 =>
qb (α := AV × AV × AV × Unit → AH → R) (fun s10 h11 =>
jz s10.2.1 (.bool true) s10.1 fun v13 =>
qD v13 (
some ((.tup [.nils, (iI 12)]), h11)) (
jY s10.2.2.1 (iI 5) 1 fun v14 =>
qW h11 v14 fun v15 =>
zH .i64 v15 fun v16 =>
zM (σ := AV × AV × AV × AV × Unit) NN (fun i20 s17 h18 d19 =>
qA .lss s17.1 s17.2.2.1 fun v21 =>
qD v21 (
jY s17.2.2.2.1 s17.1 1 fun v22 =>
qW h18 v22 fun v23 =>
qx c (.fn 45 [] []) [v23] h18 fun v24 h25 =>
qE v24 0 fun v26 =>
qE v24 1 fun v27 =>
qA .add s17.1 (iI 1) fun v28 =>
qx c (.fn 23 [] []) [v26] h25 fun v29 h30 =>
qA .add v28 v29 fun v31 =>
qA .eql v26 (iI 0) fun v32 =>
qb (α := AV × AV × AV × AV × AV × AV × AV × AV × AV × Unit → AH → R) (fun s33 h34 =>
jz s33.2.1 (.bool true) s33.1 fun v36 =>
qD v36 (
qd d19 h34 fun h37 =>
some ((.tup [.nils, (iI 12)]), h37)) (
qA .add s33.2.2.2.2.2.1 (iI 1) fun v38 =>
jW [(iI 0), (iI 0), (.bool false)] [(0, 1, v38), (1, 1, s33.2.2.2.2.1), (2, 1, s33.2.2.2.1)] fun v39 =>
jr h34 61 [(iI 0), (iI 0), (.bool false)] 1 [(0, 3, v39)] fun v40 h41 =>
jp h41 61 3 s33.2.2.2.2.2.2.1 v40 fun v42 h43 =>
i20 (s33.2.2.1, v42, s33.2.2.2.2.2.2.2.1, s33.2.2.2.2.2.2.2.2.1, ()) h43 d19)) fun j35 =>
jG v32 false (
qA .gtr v31 s17.2.2.1 fun v44 =>
j35 (v44, v32, v31, v27, v26, s17.1, s17.2.1, s17.2.2.1, s17.2.2.2.1, ()) h30) (
j35 (.undef, v32, v31, v27, v26, s17.1, s17.2.1, s17.2.2.1, s17.2.2.2.1, ()) h30)) (
qd d19 h18 fun h45 =>
some ((.tup [s17.2.1, (iI 0)]), h45))) ((iI 14), .nils, v16, s10.2.2.1, ()) h11 [])) fun j12 =>
jG v9 false (
jY s6.2.2.2.1 (iI 5) 1 fun v46 =>
qW h7 v46 fun v47 =>
zH .u64 s6.2.2.1 fun v48 =>
qA .gtr v47 v48 fun v49 =>
j12 (v49, v9, s6.2.2.2.1, ()) h7) (
j12 (.undef, v9, s6.2.2.2.1, ()) h7)) fun j8 =>
jG v5 false (
jY s2.2.2.2.1 (iI 5) 1 fun v50 =>
qW h3 v50 fun v51 =>
qA .lss v51 (uU 14) fun v52 =>
j8 (v52, v5, s2.2.2.1, s2.2.2.2.1, ()) h3) (
j8 (.undef, v5, s2.2.2.1, s2.2.2.2.1, ()) h3)) fun j4 =>
jG v1 false (
qA .gtr v0 (iI 256) fun v53 =>
j4 (v53, v1, v0, a0, ()) h) (
j4 (.undef, v1, v0, a0, ()) h)
theorem S22_eq (c : CV) (a0 : AV) (h : AH) : qH Tryz.prog NN P22 c 22 [a0] h = S22 c a0 h := by kernel_rfl
def W22 : WF := w_1 S22
theorem W22_ok : WOk Tryz.prog 22 W22 := j0 (pl := P22) fun _ _ _ => by rw [S22_eq]
def P23 : Pl := (.n none .z (.n none (.n none (.r [[7, 5, 0]]) .z) .z))
def S23 (_ : CV) (a0 : AV) (h : AH) : R :=
qA .lss a0 (iI 1) fun v0 =>
qb (α := AV × AV × AV × Unit → AH → R) (fun s1 h2 =>
jz s1.2.1 (.bool true) s1.1 fun v4 =>
qD v4 (
some ((iI 0), h2)) (
xi .shl (iI 1) s1.2.2.1 fun v5 =>
some (v5, h2))) fun j3 =>
jG v0 false (
qA .gtr a0 (iI 4) fun v6 =>
j3 (v6, v0, a0, ()) h) (
j3 (.undef, v0, a0, ()) h)
theorem S23_eq (c : CV) (a0 : AV) (h : AH) : qH Tryz.prog NN P23 c 23 [a0] h = S23 c a0 h := by kernel_rfl
def W23 : WF := w_1 S23
theorem W23_ok : WOk Tryz.prog 23 W23 := j0 (pl := P23) fun _ _ _ => by rw [S23_eq]
def P26 : Pl := (.n none .z (.n none .z (.n none .z (.n none (.r [[19, 17, 11]]) .z))))
def S26 (c : CV) (a0 a1 a2 a3 : AV) (h : AH) : R :=
jb h 3 a1 fun v0 h1 =>
jb h1 23 a2 fun v2 h3 =>
jb h3 23 a3 fun v4 h5 =>
jb h5 4 (.bool false) fun v6 h7 =>
qa h7 v6 (.bool false) 1 fun h8 =>
qW h8 v0 fun v9 =>
qx c (.fn 50 [] []) [a0, v9, (.fn 51 [] [v0, v2, v4, v6])] h8 fun v10 h11 =>
qW h11 v6 fun v12 =>
qb (α := AV × AV × AV × Unit → AH → R) (fun s13 h14 =>
jz s13.2.1 s13.1 (.bool false) fun v16 =>
some ((.tup [v16, s13.2.2.1]), h14)) fun j15 =>
jG v12 true (
qA .eql v10 (iI 0) fun v17 =>
j15 (v17, v12, v10, ()) h11) (
j15 (.undef, v12, v10, ()) h11)
theorem S26_eq (c : CV) (a0 a1 a2 a3 : AV) (h : AH) : qH Tryz.prog NN P26 c 26 [a0, a1, a2, a3] h = S26 c a0 a1 a2 a3 h := by kernel_rfl
def W26 : WF := w_4 S26
theorem W26_ok : WOk Tryz.prog 26 W26 := Jd (pl := P26) fun _ _ _ _ _ _ => by rw [S26_eq]
def P27 : Pl := .z
def S27 (c : CV) (a0 a1 : AV) (h : AH) : R :=
jb h 3 a1 fun v0 h1 =>
jb h1 3 (iI 0) fun v2 h3 =>
qa h3 v2 (iI 0) 1 fun h4 =>
qW h4 v0 fun v5 =>
qx c (.fn 50 [] []) [a0, v5, (.fn 59 [] [v0, v2])] h4 fun v6 h7 =>
qA .neq v6 (iI 0) fun v8 =>
qD v8 (
some ((.tup [(iI 0), v6]), h7)) (
qW h7 v2 fun v9 =>
some ((.tup [v9, (iI 0)]), h7))
theorem S27_eq (c : CV) (a0 a1 : AV) (h : AH) : qH Tryz.prog NN P27 c 27 [a0, a1] h = S27 c a0 a1 h := by kernel_rfl
def W27 : WF := w_2 S27
theorem W27_ok : WOk Tryz.prog 27 W27 := je (pl := P27) fun _ _ _ _ => by rw [S27_eq]
def P28 : Pl := .z
def S28 (c : CV) (a0 a1 a2 a3 : AV) (h : AH) : R :=
jb h 3 a1 fun v0 h1 =>
jb h1 23 a2 fun v2 h3 =>
jb h3 23 a3 fun v4 h5 =>
jb h5 30 .nils fun v6 h7 =>
qW h7 v0 fun v8 =>
qx c (.fn 50 [] []) [a0, v8, (.fn 62 [] [v0, v2, v4, v6])] h7 fun v9 h10 =>
qA .neq v9 (iI 0) fun v11 =>
qD v11 (
some ((.tup [.nils, v9]), h10)) (
qW h10 v6 fun v12 =>
some ((.tup [v12, (iI 0)]), h10))
theorem S28_eq (c : CV) (a0 a1 a2 a3 : AV) (h : AH) : qH Tryz.prog NN P28 c 28 [a0, a1, a2, a3] h = S28 c a0 a1 a2 a3 h := by kernel_rfl
def W28 : WF := w_4 S28
theorem W28_ok : WOk Tryz.prog 28 W28 := Jd (pl := P28) fun _ _ _ _ _ _ => by rw [S28_eq]
def P29 : Pl := .z
def S29 (c : CV) (a0 a1 a2 : AV) (h : AH) : R :=
jb h 3 a1 fun v0 h1 =>
jb h1 23 a2 fun v2 h3 =>
jb h3 23 (uU 0) fun v4 h5 =>
jb h5 4 (.bool false) fun v6 h7 =>
qa h7 v4 (uU 0) 1 fun h8 =>
qa h8 v6 (.bool false) 1 fun h9 =>
qW h9 v0 fun v10 =>
qx c (.fn 50 [] []) [a0, v10, (.fn 64 [] [v0, v2, v4, v6])] h9 fun v11 h12 =>
qA .neq v11 (iI 0) fun v13 =>
qD v13 (
some ((.tup [(uU 0), (.bool false), v11]), h12)) (
qW h12 v4 fun v14 =>
qW h12 v6 fun v15 =>
some ((.tup [v14, v15, (iI 0)]), h12))
theorem S29_eq (c : CV) (a0 a1 a2 : AV) (h : AH) : qH Tryz.prog NN P29 c 29 [a0, a1, a2] h = S29 c a0 a1 a2 h := by kernel_rfl
def W29 : WF := w_3 S29
theorem W29_ok : WOk Tryz.prog 29 W29 := zd (pl := P29) fun _ _ _ _ _ => by rw [S29_eq]
def P30 : Pl := (.n none .z (.n none (.r [[8, 7, 6, 4, 3, 0]]) (.n none .z (.n none (.n none .z (.n (some [9, 4]) (.n none .z (.n none .z (.n (some [34, 20, 8, 7, 6, 4, 0]) .z (.n none .z (.n (some [42, 20, 8, 7, 6, 4, 0]) .z (.n none .z (.n none .z (.n none .z (.n (some [59, 20, 8, 7, 6, 4, 0]) .z .z))))))))) .z)) .z))))
def S30 (c : CV) (a0 a1 : AV) (h : AH) : R :=
jb h 25 a1 fun v0 h1 =>
jb h1 42 (.agg [(iI 0), (uU 0)]) fun v2 h3 =>
qb (α := AV × AV × AV × AV × AV × AV × Unit → AH → R) (fun s4 h5 =>
qu h5 s4.2.2.2.2.1 4 fun v7 =>
qx c (.fn 35 [] []) [v7] h5 fun v8 h9 =>
qb (α := AV × AV × Unit → AH → List Nat → R) (fun s10 h11 d12 =>
qD s10.1 (
jW [(iI 0), (uU 0)] [(0, 1, (iI 2)), (1, 1, (uU 1))] fun v14 =>
qa h11 s10.2.1 v14 2 fun h15 =>
qd d12 h15 fun h16 =>
qu h16 s10.2.1 2 fun v17 =>
some ((.tup [v17, (.bool true)]), h16)) (
jW [(iI 0), (uU 0)] [(0, 1, (iI 2))] fun v18 =>
qa h11 s10.2.1 v18 2 fun h19 =>
qd d12 h19 fun h20 =>
qu h20 s10.2.1 2 fun v21 =>
some ((.tup [v21, (.bool true)]), h20))) fun j13 =>
qA .eql v8 (iI 1) fun v22 =>
qD v22 (
qx c (.fn 66 [] []) [s4.2.2.2.2.2.1, s4.2.2.1, s4.2.1, (uU 0)] h9 fun v23 h24 =>
j13 (v23, s4.2.2.2.1, ()) h24 []) (
qb (α := AV × AV × AV × AV × AV × AV × AV × Unit → AH → List Nat → R) (fun s25 h26 d27 =>
qD s25.1 (
qx c (.fn 66 [] []) [s25.2.2.2.2.2.2.1, s25.2.2.2.2.1, s25.2.2.2.1, s25.2.2.1] h26 fun v29 h30 =>
j13 (v29, s25.2.2.2.2.2.1, ()) h30 d27) (
qb (α := AV × AV × AV × AV × AV × AV × AV × Unit → AH → List Nat → R) (fun s31 h32 d33 =>
qD s31.1 (
qx c (.fn 67 [] []) [s31.2.2.2.2.2.2.1, s31.2.2.2.2.1, s31.2.2.2.1] h32 fun v35 h36 =>
j13 (v35, s31.2.2.2.2.2.1, ()) h36 d33) (
qA .eql s31.2.1 (iI 3) fun v37 =>
qD v37 (
qx c (.fn 68 [] []) [s31.2.2.2.2.2.2.1, s31.2.2.2.2.1, s31.2.2.2.1] h32 fun v38 h39 =>
qE v38 0 fun _ =>
qE v38 1 fun v41 =>
j13 (v41, s31.2.2.2.2.2.1, ()) h39 d33) (
qb (α := AV × AV × AV × AV × AV × AV × AV × Unit → AH → List Nat → R) (fun s42 h43 d44 =>
qD s42.1 (
qx c (.fn 68 [] []) [s42.2.2.2.2.2.2.1, s42.2.2.2.2.1, s42.2.2.2.1] h43 fun v46 h47 =>
qE v46 0 fun v48 =>
qE v46 1 fun v49 =>
pUn .not v49 fun v50 =>
qD v50 (
jW [(iI 0), (uU 0)] [(0, 1, (iI 3))] fun v51 =>
qa h47 s42.2.2.2.2.2.1 v51 2 fun h52 =>
qd d44 h52 fun h53 =>
qu h53 s42.2.2.2.2.2.1 2 fun v54 =>
some ((.tup [v54, (.bool true)]), h53)) (
qe s42.2.2.2.2.2.2.1 fun v55 =>
qV v55 0 fun v56 =>
ze v56 s42.2.2.2.2.1 8 1 fun v57 =>
qW h47 v57 fun v58 =>
jY v58 v48 2 fun v59 =>
qV v59 1 fun v60 =>
qW h47 v60 fun v61 =>
jW [(iI 0), (uU 0)] [(0, 1, (iI 1)), (1, 1, v61)] fun v62 =>
qa h47 s42.2.2.2.2.2.1 v62 2 fun h63 =>
qd d44 h63 fun h64 =>
qu h64 s42.2.2.2.2.2.1 2 fun v65 =>
some ((.tup [v65, (.bool true)]), h64))) (
qA .eql s42.2.1 (iI 7) fun v66 =>
qD v66 (
qe s42.2.2.2.2.2.2.1 fun v67 =>
qV v67 0 fun v68 =>
ze v68 s42.2.2.2.2.1 8 1 fun v69 =>
qW h43 v69 fun v70 =>
jp h43 78 2 .nils v70 fun v71 h72 =>
jW [(uU 0), (uU 0)] [(1, 1, s42.2.2.2.1)] fun v73 =>
jr h72 78 [(uU 0), (uU 0)] 1 [(0, 2, v73)] fun v74 h75 =>
jp h75 78 2 v71 v74 fun v76 h77 =>
qe s42.2.2.2.2.2.2.1 fun v78 =>
qV v78 0 fun v79 =>
ze v79 s42.2.2.2.2.1 8 1 fun v80 =>
qa h77 v80 v76 1 fun h81 =>
jW [(iI 0), (uU 0)] [(0, 1, (iI 3))] fun v82 =>
qa h81 s42.2.2.2.2.2.1 v82 2 fun h83 =>
qd d44 h83 fun h84 =>
qu h84 s42.2.2.2.2.2.1 2 fun v85 =>
some ((.tup [v85, (.bool true)]), h84)) (
qA .eql s42.2.1 (iI 8) fun v86 =>
qD v86 (
qe s42.2.2.2.2.2.2.1 fun v87 =>
qV v87 0 fun v88 =>
ze v88 s42.2.2.2.2.1 8 1 fun v89 =>
qW h43 v89 fun v90 =>
jy v90 fun v91 =>
qA .eql v91 (iI 0) fun v92 =>
qD v92 (
jW [(iI 0), (uU 0)] [] fun v93 =>
qa h43 s42.2.2.2.2.2.1 v93 2 fun h94 =>
qd d44 h94 fun h95 =>
qu h95 s42.2.2.2.2.2.1 2 fun v96 =>
some ((.tup [v96, (.bool false)]), h95)) (
qe s42.2.2.2.2.2.2.1 fun v97 =>
qV v97 0 fun v98 =>
ze v98 s42.2.2.2.2.1 8 1 fun v99 =>
qW h43 v99 fun v100 =>
jY v100 (iI 0) 2 fun v101 =>
qV v101 1 fun v102 =>
qW h43 v102 fun v103 =>
qe s42.2.2.2.2.2.2.1 fun v104 =>
qV v104 0 fun v105 =>
ze v105 s42.2.2.2.2.1 8 1 fun v106 =>
qW h43 v106 fun v107 =>
zg h43 78 2 v107 (some (iI 1)) none fun v108 =>
jp h43 78 2 .nils v108 fun v109 h110 =>
qe s42.2.2.2.2.2.2.1 fun v111 =>
qV v111 0 fun v112 =>
ze v112 s42.2.2.2.2.1 8 1 fun v113 =>
qa h110 v113 v109 1 fun h114 =>
jW [(iI 0), (uU 0)] [(0, 1, (iI 1)), (1, 1, v103)] fun v115 =>
qa h114 s42.2.2.2.2.2.1 v115 2 fun h116 =>
qd d44 h116 fun h117 =>
qu h117 s42.2.2.2.2.2.1 2 fun v118 =>
some ((.tup [v118, (.bool true)]), h117))) (
qx c (.fn 69 [] []) [s42.2.2.2.2.2.2.1, s42.2.2.2.2.1, s42.2.2.2.1, s42.2.2.1] h43 fun v119 h120 =>
zH .u64 v119 fun v121 =>
jW [(iI 0), (uU 0)] [(0, 1, (iI 1)), (1, 1, v121)] fun v122 =>
qa h120 s42.2.2.2.2.2.1 v122 2 fun h123 =>
qd d44 h123 fun h124 =>
qu h124 s42.2.2.2.2.2.1 2 fun v125 =>
some ((.tup [v125, (.bool true)]), h124))))) fun j45 =>
qA .eql s31.2.1 (iI 5) fun v126 =>
qD v126 (
j45 (v126, s31.2.1, s31.2.2.1, s31.2.2.2.1, s31.2.2.2.2.1, s31.2.2.2.2.2.1, s31.2.2.2.2.2.2.1, ()) h32 d33) (
qA .eql s31.2.1 (iI 10) fun v127 =>
j45 (v127, s31.2.1, s31.2.2.1, s31.2.2.2.1, s31.2.2.2.2.1, s31.2.2.2.2.2.1, s31.2.2.2.2.2.2.1, ()) h32 d33)))) fun j34 =>
qA .eql s25.2.1 (iI 2) fun v128 =>
qD v128 (
j34 (v128, s25.2.1, s25.2.2.1, s25.2.2.2.1, s25.2.2.2.2.1, s25.2.2.2.2.2.1, s25.2.2.2.2.2.2.1, ()) h26 d27) (
qA .eql s25.2.1 (iI 6) fun v129 =>
qD v129 (
j34 (v129, s25.2.1, s25.2.2.1, s25.2.2.2.1, s25.2.2.2.2.1, s25.2.2.2.2.2.1, s25.2.2.2.2.2.2.1, ()) h26 d27) (
qA .eql s25.2.1 (iI 11) fun v130 =>
j34 (v130, s25.2.1, s25.2.2.1, s25.2.2.2.1, s25.2.2.2.2.1, s25.2.2.2.2.2.1, s25.2.2.2.2.2.2.1, ()) h26 d27)))) fun j28 =>
qA .eql v8 (iI 4) fun v131 =>
qD v131 (
j28 (v131, v8, s4.1, s4.2.1, s4.2.2.1, s4.2.2.2.1, s4.2.2.2.2.2.1, ()) h9 []) (
qA .eql v8 (iI 9) fun v132 =>
j28 (v132, v8, s4.1, s4.2.1, s4.2.2.1, s4.2.2.2.1, s4.2.2.2.2.2.1, ()) h9 []))) fun j6 =>
qu h3 v0 4 fun v133 =>
qx c (.fn 10 [] []) [v133] h3 fun v134 h135 =>
qu h135 v0 4 fun v136 =>
qx c (.fn 38 [] []) [v136] h135 fun v137 h138 =>
qu h138 v0 4 fun v139 =>
qx c (.fn 39 [] []) [v139] h138 fun v140 h141 =>
vE v0 (some 4) v139 h135 h138 h3.nx <|
vE v0 (some 4) v139 h3 h135 h3.nx <|
vE v0 (some 4) v136 h3 h135 h3.nx <|
j6 (v140, v137, v134, v2, v0, a0, ()) h141
theorem S30_eq (c : CV) (a0 a1 : AV) (h : AH) : qH Tryz.prog NN P30 c 30 [a0, a1] h = S30 c a0 a1 h := by kernel_rfl
def W30 : WF := w_2 S30
theorem W30_ok : WOk Tryz.prog 30 W30 := je (pl := P30) fun _ _ _ _ => by rw [S30_eq]
def P31 : Pl := (.n none .z (.n none .z (.n none .z (.n none (.n none .z (.n none (.n (some [7, 6, 0]) (.n none .z (.n none (.n none (.n none .z (.n none (.n none (.r [[32, 25, 8, 7, 6, 0]]) .z) .z)) .z) .z)) .z) .z)) .z))))
def S31 (c : CV) (a0 a1 : AV) (h : AH) : R :=
qx c (.fn 15 [] []) [a1] h fun v0 h1 =>
qx c (.fn 70 [] []) [a0, v0] h1 fun v2 h3 =>
qx c (.fn 17 [] []) [a1] h3 fun v4 h5 =>
zM (σ := AV × AV × AV × Unit) NN (fun i9 s6 h7 d8 =>
jy s6.2.1 fun v10 =>
qA .lss s6.1 v10 fun v11 =>
qD v11 (
qx c (.fn 12 [] []) [s6.2.2.1, (iI 96)] h7 fun v12 h13 =>
pEq .ptr false v12 .nilp fun v14 =>
qb (α := AV × AV × AV × AV × AV × AV × Unit → AH → R) (fun s15 h16 =>
jz s15.2.1 (.bool true) s15.1 fun v18 =>
qD v18 (
qd d8 h16 fun h19 =>
some ((.tup [s15.2.2.2.2.2.1, (.bool false)]), h19)) (
qx c (.fn 15 [] []) [s15.2.2.1] h16 fun v20 h21 =>
qx c (.fn 70 [] []) [s15.2.2.2.2.2.1, v20] h21 fun v22 h23 =>
qA .add s15.2.2.2.1 (iI 1) fun v24 =>
i9 (v24, s15.2.2.2.2.1, v22, ()) h23 d8)) fun j17 =>
jG v14 false (
jY s6.2.1 s6.1 1 fun v25 =>
qW h13 v25 fun v26 =>
qx c (.fn 71 [] []) [v12, v26] h13 fun v27 h28 =>
qA .neq v27 (iI 0) fun v29 =>
j17 (v29, v14, v12, s6.1, s6.2.1, s6.2.2.1, ()) h28) (
j17 (.undef, v14, v12, s6.1, s6.2.1, s6.2.2.1, ()) h13)) (
qd d8 h7 fun h30 =>
some ((.tup [s6.2.2.1, (.bool true)]), h30))) ((iI 0), v4, v2, ()) h5 []
theorem S31_eq (c : CV) (a0 a1 : AV) (h : AH) : qH Tryz.prog NN P31 c 31 [a0, a1] h = S31 c a0 a1 h := by kernel_rfl
def W31 : WF := w_2 S31
theorem W31_ok : WOk Tryz.prog 31 W31 := je (pl := P31) fun _ _ _ _ => by rw [S31_eq]
def P32 : Pl := .z
def S32 (c : CV) (a0 a1 : AV) (h : AH) : R :=
qx c (.fn 28 [] []) [a0, a1, (uU 0), (uU 18446744073709551615)] h fun v0 h1 =>
qE v0 0 fun v2 =>
qE v0 1 fun v3 =>
some ((.tup [v2, v3]), h1)
theorem S32_eq (c : CV) (a0 a1 : AV) (h : AH) : qH Tryz.prog NN P32 c 32 [a0, a1] h = S32 c a0 a1 h := by kernel_rfl
def W32 : WF := w_2 S32
theorem W32_ok : WOk Tryz.prog 32 W32 := je (pl := P32) fun _ _ _ _ => by rw [S32_eq]
def P33 : Pl := (.n none .z (.n none .z (.n none (.n none .z (.n none (.n (some [5, 1, 0]) .z .z) .z)) .z)))
def S33 (_ : CV) (a0 a1 : AV) (h : AH) : R :=
jy a0 fun v0 =>
jy a1 fun v1 =>
qA .neq v0 v1 fun v2 =>
qD v2 (
some ((.bool false), h)) (
zM (σ := AV × AV × AV × Unit) NN (fun i6 s3 h4 d5 =>
jy s3.2.2.1 fun v7 =>
qA .lss s3.1 v7 fun v8 =>
qD v8 (
jY s3.2.2.1 s3.1 2 fun v9 =>
qu h4 v9 2 fun v10 =>
jY s3.2.1 s3.1 2 fun v11 =>
qu h4 v11 2 fun v12 =>
Jn [.bas .int 0, .bas .int 1] true v10 v12 fun v13 =>
qD v13 (
qd d5 h4 fun h14 =>
some ((.bool false), h14)) (
qA .add s3.1 (iI 1) fun v15 =>
i6 (v15, s3.2.1, s3.2.2.1, ()) h4 d5)) (
qd d5 h4 fun h16 =>
some ((.bool true), h16))) ((iI 0), a1, a0, ()) h [])
theorem S33_eq (c : CV) (a0 a1 : AV) (h : AH) : qH Tryz.prog NN P33 c 33 [a0, a1] h = S33 c a0 a1 h := by kernel_rfl
def W33 : WF := w_2 S33
theorem W33_ok : WOk Tryz.prog 33 W33 := je (pl := P33) fun _ _ _ _ => by rw [S33_eq]
def P34 : Pl := (.n none .z (.n none .z (.n (some [1, 0]) .z .z)))
def S34 (_ : CV) (a0 a1 a2 : AV) (h : AH) : R :=
qA .sub a2 a1 fun v0 =>
qA .add v0 (iI 1) fun v1 =>
qA .rem a0 v1 fun v2 =>
qb (α := AV × AV × Unit → AH → List Nat → R) (fun s3 h4 d5 =>
qA .add s3.1 s3.2.1 fun v7 =>
qd d5 h4 fun h8 =>
some (v7, h8)) fun j6 =>
qA .lss v2 (iI 0) fun v9 =>
qD v9 (
qA .add v2 a2 fun v10 =>
qA .sub v10 a1 fun v11 =>
qA .add v11 (iI 1) fun v12 =>
j6 (a1, v12, ()) h []) (
j6 (a1, v2, ()) h [])
theorem S34_eq (c : CV) (a0 a1 a2 : AV) (h : AH) : qH Tryz.prog NN P34 c 34 [a0, a1, a2] h = S34 c a0 a1 a2 h := by kernel_rfl
def W34 : WF := w_3 S34
theorem W34_ok : WOk Tryz.prog 34 W34 := zd (pl := P34) fun _ _ _ _ _ => by rw [S34_eq]
def P35 : Pl := (.n none .z (.n none (.n none (.r [[9, 6, 1]]) .z) .z))
def S35 (c : CV) (a0 : AV) (h : AH) : R :=
jb h 25 a0 fun v0 h1 =>
qV v0 0 fun v2 =>
qW h1 v2 fun v3 =>
qA .geq v3 (iI 1) fun v4 =>
qb (α := AV × AV × AV × Unit → AH → R) (fun s5 h6 =>
jz s5.2.1 s5.1 (.bool false) fun v8 =>
qD v8 (
qV s5.2.2.1 0 fun v9 =>
qW h6 v9 fun v10 =>
some (v10, h6)) (
qV s5.2.2.1 0 fun v11 =>
qW h6 v11 fun v12 =>
qx c (.fn 34 [] []) [v12, (iI 1), (iI 12)] h6 fun v13 h14 =>
some (v13, h14))) fun j7 =>
jG v4 true (
qV v0 0 fun v15 =>
qW h1 v15 fun v16 =>
qA .leq v16 (iI 12) fun v17 =>
j7 (v17, v4, v0, ()) h1) (
j7 (.undef, v4, v0, ()) h1)
theorem S35_eq (c : CV) (a0 : AV) (h : AH) : qH Tryz.prog NN P35 c 35 [a0] h = S35 c a0 h := by kernel_rfl
def W35 : WF := w_1 S35
theorem W35_ok : WOk Tryz.prog 35 W35 := j0 (pl := P35) fun _ _ _ => by rw [S35_eq]
def P36 : Pl := .z
def S36 (c : CV) (a0 : AV) (h : AH) : R :=
pMM false [a0, (iI 96)] fun v0 =>
pMM true [(iI 0), v0] fun v1 =>
qx c (.fn 72 [] []) [] h fun v2 h3 =>
jr h3 119 [.nilp] 1 [(0, 1, v2)] fun v4 h5 =>
jW [(iI 0), .nils] [(0, 1, v1), (1, 1, v4)] fun v6 =>
jb h5 123 v6 fun v7 h8 =>
some (v7, h8)
theorem S36_eq (c : CV) (a0 : AV) (h : AH) : qH Tryz.prog NN P36 c 36 [a0] h = S36 c a0 h := by kernel_rfl
def W36 : WF := w_1 S36
theorem W36_ok : WOk Tryz.prog 36 W36 := j0 (pl := P36) fun _ _ _ => by rw [S36_eq]
def P37 : Pl := .z
def S37 (_ : CV) (a0 : AV) (h : AH) : R :=
qe a0 fun v0 =>
qV v0 0 fun v1 =>
qW h v1 fun v2 =>
jy v2 fun v3 =>
some (v3, h)
theorem S37_eq (c : CV) (a0 : AV) (h : AH) : qH Tryz.prog NN P37 c 37 [a0] h = S37 c a0 h := by kernel_rfl
def W37 : WF := w_1 S37
theorem W37_ok : WOk Tryz.prog 37 W37 := j0 (pl := P37) fun _ _ _ => by rw [S37_eq]
def P38 : Pl := .z
def S38 (_ : CV) (a0 : AV) (h : AH) : R :=
jb h 25 a0 fun v0 h1 =>
qV v0 2 fun v2 =>
qW h1 v2 fun v3 =>
qA .rem v3 (uU 12) fun v4 =>
some (v4, h1)
theorem S38_eq (c : CV) (a0 : AV) (h : AH) : qH Tryz.prog NN P38 c 38 [a0] h = S38 c a0 h := by kernel_rfl
def W38 : WF := w_1 S38
theorem W38_ok : WOk Tryz.prog 38 W38 := j0 (pl := P38) fun _ _ _ => by rw [S38_eq]
def P39 : Pl := .z
def S39 (_ : CV) (a0 : AV) (h : AH) : R :=
jb h 25 a0 fun v0 h1 =>
qV v0 3 fun v2 =>
qW h1 v2 fun v3 =>
qA .rem v3 (uU 12) fun v4 =>
some (v4, h1)
theorem S39_eq (c : CV) (a0 : AV) (h : AH) : qH Tryz.prog NN P39 c 39 [a0] h = S39 c a0 h := by kernel_rfl
def W39 : WF := w_1 S39
theorem W39_ok : WOk Tryz.prog 39 W39 := j0 (pl := P39) fun _ _ _ => by rw [S39_eq]
def P40 : Pl := (.n none .z (.n none .z (.n none .z (.n none (.r [[17, 15, 9]]) .z))))
def S40 (c : CV) (a0 a1 a2 : AV) (h : AH) : R :=
jb h 3 a1 fun v0 h1 =>
jb h1 23 a2 fun v2 h3 =>
jb h3 4 (.bool false) fun v4 h5 =>
qa h5 v4 (.bool false) 1 fun h6 =>
qW h6 v0 fun v7 =>
qx c (.fn 50 [] []) [a0, v7, (.fn 73 [] [v0, v2, v4])] h6 fun v8 h9 =>
qW h9 v4 fun v10 =>
qb (α := AV × AV × AV × Unit → AH → R) (fun s11 h12 =>
jz s11.2.1 s11.1 (.bool false) fun v14 =>
some ((.tup [v14, s11.2.2.1]), h12)) fun j13 =>
jG v10 true (
qA .eql v8 (iI 0) fun v15 =>
j13 (v15, v10, v8, ()) h9) (
j13 (.undef, v10, v8, ()) h9)
theorem S40_eq (c : CV) (a0 a1 a2 : AV) (h : AH) : qH Tryz.prog NN P40 c 40 [a0, a1, a2] h = S40 c a0 a1 a2 h := by kernel_rfl
def W40 : WF := w_3 S40
theorem W40_ok : WOk Tryz.prog 40 W40 := zd (pl := P40) fun _ _ _ _ _ => by rw [S40_eq]
def P41 : Pl := (.n none .z (.n none .z (.n none (.n none .z (.n none (.n (some [3]) .z .z) .z)) .z)))
def S41 (c : CV) (a0 : AV) (h : AH) : R :=
jb h 49 .nils fun v0 h1 =>
qe a0 fun v2 =>
qV v2 1 fun v3 =>
qW h1 v3 fun v4 =>
qx c (.fn 75 [] []) [v4] h1 fun v5 h6 =>
Jl c v5 [.yield (h6.new .dfd).nx] ((h6.new .dfd).new (.loop .ready none 41 [1, 1, 0, 1, 0] [3] [v0] h6.nx)) fun _ h7 =>
vY h7 (h6.new .dfd).nx fun p9 h8 =>
XZ p9 (
qW h8 v0 fun v10 =>
qd (h6.nx :: []) h8 fun h11 =>
some (v10, h11)) <|
none
theorem S41_eq (c : CV) (a0 : AV) (h : AH) : qH Tryz.prog NN P41 c 41 [a0] h = S41 c a0 h := by kernel_rfl
def W41 : WF := w_1 S41
theorem W41_ok : WOk Tryz.prog 41 W41 := j0 (pl := P41) fun _ _ _ => by rw [S41_eq]
def P42 : Pl := (.n none .z (.n none .z (.n none (.n none .z (.n none (.n (some [11, 10, 9, 3]) .z .z) .z)) .z)))
def S42 (_ : CV) (a0 : AV) (h : AH) : R :=
qe a0 fun v0 =>
qV v0 1 fun v1 =>
qW h v1 fun v2 =>
jy v2 fun v3 =>
zM (σ := AV × AV × AV × AV × Unit) NN (fun i7 s4 h5 d6 =>
qA .lss s4.1 s4.2.1 fun v8 =>
qD v8 (
jY s4.2.2.1 s4.1 1 fun v9 =>
qW h5 v9 fun v10 =>
qe v10 fun v11 =>
qV v11 1 fun v12 =>
qW h5 v12 fun v13 =>
jp h5 3 1 s4.2.2.2.1 v13 fun v14 h15 =>
qA .add s4.1 (iI 1) fun v16 =>
i7 (v16, s4.2.1, s4.2.2.1, v14, ()) h15 d6) (
qd d6 h5 fun h17 =>
some (s4.2.2.2.1, h17))) ((iI 0), v3, v2, .nils, ()) h []
theorem S42_eq (c : CV) (a0 : AV) (h : AH) : qH Tryz.prog NN P42 c 42 [a0] h = S42 c a0 h := by kernel_rfl
def W42 : WF := w_1 S42
theorem W42_ok : WOk Tryz.prog 42 W42 := j0 (pl := P42) fun _ _ _ => by rw [S42_eq]
def P43 : Pl := .z
def S43 (_ : CV) (a0 : AV) (h : AH) : R :=
qe a0 fun v0 =>
qV v0 1 fun v1 =>
qW h v1 fun v2 =>
jy v2 fun v3 =>
some (v3, h)
theorem S43_eq (c : CV) (a0 : AV) (h : AH) : qH Tryz.prog NN P43 c 43 [a0] h = S43 c a0 h := by kernel_rfl
def W43 : WF := w_1 S43
theorem W43_ok : WOk Tryz.prog 43 W43 := j0 (pl := P43) fun _ _ _ => by rw [S43_eq]
def P44 : Pl := (.n none .z (.n none (.r [[14, 7]]) .z))
def S44 (_ : CV) (a0 a1 : AV) (h : AH) : R :=
qA .geq a1 (iI 1) fun v0 =>
qb (α := AV × AV × Unit → AH → R) (fun s1 h2 =>
jz s1.2.1 s1.1 (.bool false) fun v4 =>
some (v4, h2)) fun j3 =>
jG v0 true (
qe a0 fun v5 =>
qV v5 0 fun v6 =>
qW h v6 fun v7 =>
jy v7 fun v8 =>
qA .lss a1 v8 fun v9 =>
j3 (v9, v0, ()) h) (
j3 (.undef, v0, ()) h)
theorem S44_eq (c : CV) (a0 a1 : AV) (h : AH) : qH Tryz.prog NN P44 c 44 [a0, a1] h = S44 c a0 a1 h := by kernel_rfl
def W44 : WF := w_2 S44
theorem W44_ok : WOk Tryz.prog 44 W44 := je (pl := P44) fun _ _ _ _ => by rw [S44_eq]
def P45 : Pl := (.n none .z (.n none (.n none (.n none (.r [[9, 7, 0]]) (.n none .z (.n none (.r [[18, 16, 0]]) .z))) .z) .z))
def S45 (_ : CV) (a0 : AV) (h : AH) : R :=
qA .geq a0 (uU 1) fun v0 =>
qb (α := AV × AV × AV × Unit → AH → R) (fun s1 h2 =>
jz s1.2.1 s1.1 (.bool false) fun v4 =>
qD v4 (
zH .i64 s1.2.2.1 fun v5 =>
some ((.tup [v5, (.bool false)]), h2)) (
qA .geq s1.2.2.1 (uU 9) fun v6 =>
qb (α := AV × AV × AV × Unit → AH → R) (fun s7 h8 =>
jz s7.2.1 s7.1 (.bool false) fun v10 =>
qD v10 (
qA .sub s7.2.2.1 (uU 8) fun v11 =>
zH .i64 v11 fun v12 =>
some ((.tup [v12, (.bool true)]), h8)) (
some ((.tup [(iI 0), (.bool false)]), h8))) fun j9 =>
jG v6 true (
qA .leq s1.2.2.1 (uU 12) fun v13 =>
j9 (v13, v6, s1.2.2.1, ()) h2) (
j9 (.undef, v6, s1.2.2.1, ()) h2))) fun j3 =>
jG v0 true (
qA .leq a0 (uU 4) fun v14 =>
j3 (v14, v0, a0, ()) h) (
j3 (.undef, v0, a0, ()) h)
theorem S45_eq (c : CV) (a0 : AV) (h : AH) : qH Tryz.prog NN P45 c 45 [a0] h = S45 c a0 h := by kernel_rfl
def W45 : WF := w_1 S45
theorem W45_ok : WOk Tryz.prog 45 W45 := j0 (pl := P45) fun _ _ _ => by rw [S45_eq]
def P46 : Pl := .z
def S46 (_ : CV) (a0 : AV) (h : AH) : R :=
qA .add (iI 0) a0 fun v0 =>
some (v0, h)
theorem S46_eq (c : CV) (a0 : AV) (h : AH) : qH Tryz.prog NN P46 c 46 [a0] h = S46 c a0 h := by kernel_rfl
def W46 : WF := w_1 S46
theorem W46_ok : WOk Tryz.prog 46 W46 := j0 (pl := P46) fun _ _ _ => by rw [S46_eq]
def P50 : Pl := (.n none .z (.n none (.n none (.r [[17, 15, 2, 0]]) .z) (.n none .z (.n none .z (.n none .z (.n none .z (.n none .z (.n none (.n none .z (.n none (.n (some [67, 66, 65, 0]) .z .z) .z)) .z))))))))
def S50 (c : CV) (a0 a1 a2 : AV) (h : AH) : R :=
qA .lss a1 (iI 6) fun v0 =>
qb (α := AV × AV × AV × AV × Unit → AH → R) (fun s1 h2 =>
jz s1.2.1 (.bool true) s1.1 fun v4 =>
qD v4 (
some ((iI 2), h2)) (
qx c (.fn 80 [] []) [s1.2.2.2.1] h2 fun v5 h6 =>
jW [.nilp, (iI 0), (iI 0)] [(0, 1, v5)] fun v7 =>
jb h6 136 v7 fun v8 h9 =>
qx c s1.2.2.1 [v8] h9 fun _ h11 =>
qe v8 fun v12 =>
qV v12 1 fun v13 =>
qW h11 v13 fun v14 =>
qA .eql v14 (iI 11) fun v15 =>
qD v15 (
qe v8 fun v16 =>
qV v16 0 fun v17 =>
qW h11 v17 fun v18 =>
qx c (.fn 19 [] []) [v18] h11 fun v19 h20 =>
qx c (.fn 81 [] []) [s1.2.2.2.1, v19] h20 fun v21 h22 =>
qE v21 0 fun _ =>
qE v21 1 fun v24 =>
some (v24, h22)) (
qe v8 fun v25 =>
qV v25 1 fun v26 =>
qW h11 v26 fun v27 =>
qA .neq v27 (iI 0) fun v28 =>
qD v28 (
qe v8 fun v29 =>
qV v29 1 fun v30 =>
qW h11 v30 fun v31 =>
some (v31, h11)) (
qe v8 fun v32 =>
qV v32 0 fun v33 =>
qW h11 v33 fun v34 =>
qx c (.fn 15 [] []) [v34] h11 fun v35 h36 =>
qx c (.fn 82 [] []) [s1.2.2.2.1, v35] h36 fun v37 h38 =>
qA .neq v37 (iI 0) fun v39 =>
qD v39 (
some (v37, h38)) (
qe v8 fun v40 =>
qV v40 0 fun v41 =>
qW h38 v41 fun v42 =>
qx c (.fn 17 [] []) [v42] h38 fun v43 h44 =>
jy v43 fun v45 =>
zM (σ := AV × AV × AV × AV × Unit) NN (fun i49 s46 h47 d48 =>
qA .lss s46.1 s46.2.1 fun v50 =>
qD v50 (
jY s46.2.2.1 s46.1 1 fun v51 =>
qW h47 v51 fun v52 =>
qx c (.fn 83 [] []) [s46.2.2.2.1, v52] h47 fun _ h54 =>
qA .add s46.1 (iI 1) fun v55 =>
i49 (v55, s46.2.1, s46.2.2.1, s46.2.2.2.1, ()) h54 d48) (
qd d48 h47 fun h56 =>
some ((iI 0), h56))) ((iI 0), v45, v43, s1.2.2.2.1, ()) h44 []))))) fun j3 =>
jG v0 false (
qA .geq a1 (iI 14) fun v57 =>
j3 (v57, v0, a2, a0, ()) h) (
j3 (.undef, v0, a2, a0, ()) h)
theorem S50_eq (c : CV) (a0 a1 a2 : AV) (h : AH) : qH Tryz.prog NN P50 c 50 [a0, a1, a2] h = S50 c a0 a1 a2 h := by kernel_rfl
def W50 : WF := w_3 S50
theorem W50_ok : WOk Tryz.prog 50 W50 := zd (pl := P50) fun _ _ _ _ _ => by rw [S50_eq]
def P51 : Pl := .z
def S51 (c : CV) (a0 a1 a2 a3 a4 : AV) (h : AH) : R :=
qW h a1 fun v0 =>
jW [.nilp, (iI 0), .nils] [(0, 1, a0), (1, 1, v0)] fun v1 =>
jb h 106 v1 fun v2 h3 =>
qW h3 a2 fun v4 =>
qx c (.fn 52 [] []) [v2, v4] h3 fun v5 h6 =>
qx c (.fn 53 [] []) [a0] h6 fun v7 h8 =>
pUn .not v7 fun v9 =>
qD v9 (
some ((.tup []), h8)) (
qA .neq v5 (iI 0) fun v10 =>
qD v10 (
qA .add v5 (iI 1) fun v11 =>
qW h8 a3 fun v12 =>
qx c (.fn 54 [] []) [a0, v11, v12] h8 fun _ h14 =>
some ((.tup []), h14)) (
qx c (.fn 55 [] []) [a0, (iI 4)] h8 fun v15 h16 =>
qA .add v15 (iI 0) fun v17 =>
qW h16 a2 fun v18 =>
qx c (.fn 54 [] []) [a0, v17, v18] h16 fun _ h20 =>
qA .add v15 (iI 1) fun v21 =>
qW h20 a3 fun v22 =>
qx c (.fn 54 [] []) [a0, v21, v22] h20 fun _ h24 =>
qA .add v15 (iI 2) fun v25 =>
qx c (.fn 54 [] []) [a0, v25, (uU 1)] h24 fun _ h27 =>
qA .add v15 (iI 3) fun v28 =>
qx c (.fn 56 [] []) [a0, v28, (iI 0)] h27 fun _ h30 =>
qe v2 fun v31 =>
qV v31 2 fun v32 =>
qW h30 v32 fun v33 =>
jy v33 fun v34 =>
qx c (.fn 57 [] []) [v2, v34, v15] h30 fun _ h36 =>
qx c (.fn 58 [] []) [v2] h36 fun _ h38 =>
qa h38 a4 (.bool true) 1 fun h39 =>
some ((.tup []), h39)))
theorem S51_eq (c : CV) (a0 a1 a2 a3 a4 : AV) (h : AH) : qH Tryz.prog NN P51 c 51 [a0, a1, a2, a3, a4] h = S51 c a0 a1 a2 a3 a4 h := by kernel_rfl
def W51 : WF := w_5 S51
theorem W51_ok : WOk Tryz.prog 51 W51 := KP (pl := P51) fun _ _ _ _ _ _ _ => by rw [S51_eq]
def P52 : Pl := (.n none .z (.n none .z (.n none (.n none .z (.n none (.n (some [5, 1, 0]) (.n none (.n none (.r [[20, 15, 5, 1, 0]]) .z) (.n none (.n none .z (.n none .z (.n none .z (.n (some [7, 5, 1, 0]) .z .z)))) .z)) .z) .z)) .z)))
def S52 (c : CV) (a0 a1 : AV) (h : AH) : R :=
qe a0 fun v0 =>
qV v0 2 fun v1 =>
qa h v1 .nils 1 fun h2 =>
qx c (.fn 61 [] []) [a0] h2 fun v3 h4 =>
zM (σ := AV × AV × AV × Unit) NN (fun i8 s5 h6 d7 =>
qA .neq s5.1 (iI 0) fun v9 =>
qb (α := AV × AV × AV × AV × AV × Unit → AH → R) (fun s10 h11 =>
jz s10.2.1 s10.1 (.bool false) fun v13 =>
qD v13 (
qe s10.2.2.2.2.1 fun v14 =>
qV v14 0 fun v15 =>
qW h11 v15 fun v16 =>
qA .add s10.2.2.1 (iI 0) fun v17 =>
qx c (.fn 65 [] []) [v16, v17] h11 fun v18 h19 =>
qA .eql v18 s10.2.2.2.1 fun v20 =>
qD v20 (
qd d7 h19 fun h21 =>
some (s10.2.2.1, h21)) (
qb (α := AV × AV × AV × AV × Unit → AH → List Nat → R) (fun s22 h23 d24 =>
qe s22.2.2.2.1 fun v26 =>
qV v26 2 fun v27 =>
qW h23 v27 fun v28 =>
jW [(iI 0), (iI 0)] [(0, 1, s22.2.1), (1, 1, s22.1)] fun v29 =>
jr h23 140 [(iI 0), (iI 0)] 1 [(0, 2, v29)] fun v30 h31 =>
jp h31 140 2 v28 v30 fun v32 h33 =>
qe s22.2.2.2.1 fun v34 =>
qV v34 2 fun v35 =>
qa h33 v35 v32 1 fun h36 =>
qx c (.fn 85 [] []) [s22.2.2.2.1, s22.2.1, s22.1] h36 fun v37 h38 =>
i8 (v37, s22.2.2.1, s22.2.2.2.1, ()) h38 d24) fun j25 =>
qA .gtr s10.2.2.2.1 v18 fun v39 =>
qD v39 (
j25 ((iI 1), s10.2.2.1, s10.2.2.2.1, s10.2.2.2.2.1, ()) h19 d7) (
j25 ((iI 0), s10.2.2.1, s10.2.2.2.1, s10.2.2.2.2.1, ()) h19 d7))) (
qd d7 h11 fun h40 =>
some ((iI 0), h40))) fun j12 =>
jG v9 true (
qe s5.2.2.1 fun v41 =>
qV v41 0 fun v42 =>
qW h6 v42 fun v43 =>
qx c (.fn 84 [] []) [v43] h6 fun v44 h45 =>
j12 (v44, v9, s5.1, s5.2.1, s5.2.2.1, ()) h45) (
j12 (.undef, v9, s5.1, s5.2.1, s5.2.2.1, ()) h6)) (v3, a1, a0, ()) h4 []
theorem S52_eq (c : CV) (a0 a1 : AV) (h : AH) : qH Tryz.prog NN P52 c 52 [a0, a1] h = S52 c a0 a1 h := by kernel_rfl
def W52 : WF := w_2 S52
theorem W52_ok : WOk Tryz.prog 52 W52 := je (pl := P52) fun _ _ _ _ => by rw [S52_eq]
def P53 : Pl := .z
def S53 (_ : CV) (a0 : AV) (h : AH) : R :=
qe a0 fun v0 =>
qV v0 1 fun v1 =>
qW h v1 fun v2 =>
qA .eql v2 (iI 0) fun v3 =>
some (v3, h)
theorem S53_eq (c : CV) (a0 : AV) (h : AH) : qH Tryz.prog NN P53 c 53 [a0] h = S53 c a0 h := by kernel_rfl
def W53 : WF := w_1 S53
theorem W53_ok : WOk Tryz.prog 53 W53 := j0 (pl := P53) fun _ _ _ => by rw [S53_eq]
def P54 : Pl := .z
def S54 (c : CV) (a0 a1 a2 : AV) (h : AH) : R :=
qx c (.fn 53 [] []) [a0] h fun v0 h1 =>
qD v0 (
qe a0 fun v2 =>
qV v2 0 fun v3 =>
qW h1 v3 fun v4 =>
qx c (.fn 87 [] []) [v4, a1, a2] h1 fun v5 h6 =>
qx c (.fn 86 [] []) [a0, v5] h6 fun _ h8 =>
some ((.tup []), h8)) (
some ((.tup []), h1))
theorem S54_eq (c : CV) (a0 a1 a2 : AV) (h : AH) : qH Tryz.prog NN P54 c 54 [a0, a1, a2] h = S54 c a0 a1 a2 h := by kernel_rfl
def W54 : WF := w_3 S54
theorem W54_ok : WOk Tryz.prog 54 W54 := zd (pl := P54) fun _ _ _ _ _ => by rw [S54_eq]
def P55 : Pl := .z
def S55 (c : CV) (a0 a1 : AV) (h : AH) : R :=
qx c (.fn 53 [] []) [a0] h fun v0 h1 =>
pUn .not v0 fun v2 =>
qD v2 (
some ((iI 0), h1)) (
qe a0 fun v3 =>
qV v3 0 fun v4 =>
qW h1 v4 fun v5 =>
qx c (.fn 88 [] []) [v5, a1] h1 fun v6 h7 =>
qE v6 0 fun v8 =>
qE v6 1 fun v9 =>
qx c (.fn 86 [] []) [a0, v9] h7 fun _ h11 =>
some (v8, h11))
theorem S55_eq (c : CV) (a0 a1 : AV) (h : AH) : qH Tryz.prog NN P55 c 55 [a0, a1] h = S55 c a0 a1 h := by kernel_rfl
def W55 : WF := w_2 S55
theorem W55_ok : WOk Tryz.prog 55 W55 := je (pl := P55) fun _ _ _ _ => by rw [S55_eq]
def P56 : Pl := .z
def S56 (c : CV) (a0 a1 a2 : AV) (h : AH) : R :=
zH .u64 a2 fun v0 =>
qx c (.fn 54 [] []) [a0, a1, v0] h fun _ h2 =>
some ((.tup []), h2)
theorem S56_eq (c : CV) (a0 a1 a2 : AV) (h : AH) : qH Tryz.prog NN P56 c 56 [a0, a1, a2] h = S56 c a0 a1 a2 h := by kernel_rfl
def W56 : WF := w_3 S56
theorem W56_ok : WOk Tryz.prog 56 W56 := zd (pl := P56) fun _ _ _ _ _ => by rw [S56_eq]
def P57 : Pl := .z
def S57 (c : CV) (a0 a1 a2 : AV) (h : AH) : R :=
qA .eql a1 (iI 0) fun v0 =>
qD v0 (
qe a0 fun v1 =>
qV v1 0 fun v2 =>
qW h v2 fun v3 =>
qe a0 fun v4 =>
qV v4 1 fun v5 =>
qW h v5 fun v6 =>
qx c (.fn 56 [] []) [v3, v6, a2] h fun _ h8 =>
some ((.tup []), h8)) (
qe a0 fun v9 =>
qV v9 2 fun v10 =>
qW h v10 fun v11 =>
qA .sub a1 (iI 1) fun v12 =>
jY v11 v12 2 fun v13 =>
qV v13 0 fun v14 =>
qW h v14 fun v15 =>
qe a0 fun v16 =>
qV v16 2 fun v17 =>
qW h v17 fun v18 =>
qA .sub a1 (iI 1) fun v19 =>
jY v18 v19 2 fun v20 =>
qV v20 1 fun v21 =>
qW h v21 fun v22 =>
qx c (.fn 89 [] []) [a0, v15, v22, a2] h fun _ h24 =>
some ((.tup []), h24))
theorem S57_eq (c : CV) (a0 a1 a2 : AV) (h : AH) : qH Tryz.prog NN P57 c 57 [a0, a1, a2] h = S57 c a0 a1 a2 h := by kernel_rfl
def W57 : WF := w_3 S57
theorem W57_ok : WOk Tryz.prog 57 W57 := zd (pl := P57) fun _ _ _ _ _ => by rw [S57_eq]
def P58 : Pl := (.n none (.n none (.n (some [0]) (.n none (.n none (.r [[17, 12, 0]]) .z) (.n none (.n none .z (.n none (.r [[4, 3, 2, 0]]) .z)) .z)) .z) .z) (.n none (.r [[92, 87, 0]]) .z))
def S58 (c : CV) (a0 : AV) (h : AH) : R :=
zM (σ := AV × Unit) NN (fun i3 s0 h1 d2 =>
qe s0.1 fun v4 =>
qV v4 2 fun v5 =>
qW h1 v5 fun v6 =>
jy v6 fun v7 =>
qA .geq v7 (iI 2) fun v8 =>
qb (α := AV × AV × AV × Unit → AH → R) (fun s9 h10 =>
jz s9.2.1 s9.1 (.bool false) fun v12 =>
qD v12 (
qe s9.2.2.1 fun v13 =>
qV v13 2 fun v14 =>
qW h10 v14 fun v15 =>
jy v15 fun v16 =>
qb (α := AV × AV × AV × AV × Unit → AH → R) (fun s17 h18 =>
qV s17.2.1 0 fun v20 =>
qW h18 v20 fun v21 =>
qx c (.fn 90 [] []) [s17.2.2.2.1, v21] h18 fun v22 h23 =>
pUn .not v22 fun v24 =>
qD v24 (
qd d2 h23 fun h25 =>
some ((.tup []), h25)) (
qV s17.1 0 fun v26 =>
qW h23 v26 fun v27 =>
qV s17.1 1 fun v28 =>
qW h23 v28 fun v29 =>
qA .sub (iI 1) v29 fun v30 =>
qx c (.fn 85 [] []) [s17.2.2.2.1, v27, v30] h23 fun v31 h32 =>
qx c (.fn 90 [] []) [s17.2.2.2.1, v31] h32 fun v33 h34 =>
pUn .not v33 fun v35 =>
qD v35 (
qu h34 s17.2.1 2 fun v36 =>
qu h34 s17.1 2 fun v37 =>
qx c (.fn 91 [] []) [s17.2.2.2.1, v36, v37] h34 fun _ h39 =>
qd d2 h39 fun h40 =>
some ((.tup []), h40)) (
qV s17.2.1 0 fun v41 =>
qW h34 v41 fun v42 =>
qx c (.fn 92 [] []) [s17.2.2.2.1, v42, (.bool false)] h34 fun _ h44 =>
qx c (.fn 92 [] []) [s17.2.2.2.1, v31, (.bool false)] h44 fun _ h46 =>
qV s17.1 0 fun v47 =>
qW h46 v47 fun v48 =>
qx c (.fn 92 [] []) [s17.2.2.2.1, v48, (.bool true)] h46 fun _ h50 =>
qe s17.2.2.2.1 fun v51 =>
qV v51 2 fun v52 =>
qW h50 v52 fun v53 =>
qA .sub s17.2.2.1 (iI 2) fun v54 =>
zg h50 140 2 v53 none (some v54) fun v55 =>
qe s17.2.2.2.1 fun v56 =>
qV v56 2 fun v57 =>
qa h50 v57 v55 1 fun h58 =>
i3 (s17.2.2.2.1, ()) h58 d2))) fun j19 =>
qe s9.2.2.1 fun v59 =>
qV v59 2 fun v60 =>
qW h10 v60 fun v61 =>
qA .sub v16 (iI 1) fun v62 =>
jY v61 v62 2 fun v63 =>
qu h10 v63 2 fun v64 =>
qe s9.2.2.1 fun v65 =>
qV v65 2 fun v66 =>
qW h10 v66 fun v67 =>
qA .sub v16 (iI 2) fun v68 =>
jY v67 v68 2 fun v69 =>
qu h10 v69 2 fun v70 =>
jb h10 140 (.agg [(iI 0), (iI 0)]) fun v71 h72 =>
jb h72 140 (.agg [(iI 0), (iI 0)]) fun v73 h74 =>
qa h74 v71 v64 2 fun h75 =>
qa h75 v73 v70 2 fun h76 =>
vE v69 (some 2) v70 h74 h75 h10.nx <|
vE v66 none v67 h74 h75 h10.nx <|
j19 (v73, v71, v16, s9.2.2.1, ()) h76) (
qe s9.2.2.1 fun v77 =>
qV v77 2 fun v78 =>
qW h10 v78 fun v79 =>
jy v79 fun v80 =>
qA .lss v80 (iI 2) fun v81 =>
qb (α := AV × AV × AV × Unit → AH → R) (fun s82 h83 =>
jz s82.2.1 s82.1 (.bool false) fun v85 =>
qD v85 (
qx c (.fn 61 [] []) [s82.2.2.1] h83 fun v86 h87 =>
qx c (.fn 92 [] []) [s82.2.2.1, v86, (.bool false)] h87 fun _ h89 =>
qd d2 h89 fun h90 =>
some ((.tup []), h90)) (
qd d2 h83 fun h91 =>
some ((.tup []), h91))) fun j84 =>
jG v81 true (
qe s9.2.2.1 fun v92 =>
qV v92 0 fun v93 =>
qW h10 v93 fun v94 =>
qx c (.fn 53 [] []) [v94] h10 fun v95 h96 =>
j84 (v95, v81, s9.2.2.1, ()) h96) (
j84 (.undef, v81, s9.2.2.1, ()) h10))) fun j11 =>
jG v8 true (
qe s0.1 fun v97 =>
qV v97 0 fun v98 =>
qW h1 v98 fun v99 =>
qx c (.fn 84 [] []) [v99] h1 fun v100 h101 =>
j11 (v100, v8, s0.1, ()) h101) (
j11 (.undef, v8, s0.1, ()) h1)) (a0, ()) h []
theorem S58_eq (c : CV) (a0 : AV) (h : AH) : qH Tryz.prog NN P58 c 58 [a0] h = S58 c a0 h := by kernel_rfl
def W58 : WF := w_1 S58
theorem W58_ok : WOk Tryz.prog 58 W58 := j0 (pl := P58) fun _ _ _ => by rw [S58_eq]
def P59 : Pl := .z
def S59 (c : CV) (a0 a1 a2 : AV) (h : AH) : R :=
qW h a1 fun v0 =>
jW [.nilp, (iI 0), .nils] [(0, 1, a0), (1, 1, v0)] fun v1 =>
jb h 106 v1 fun v2 h3 =>
qx c (.fn 61 [] []) [v2] h3 fun v4 h5 =>
qx c (.fn 60 [] []) [v2, v4] h5 fun v6 h7 =>
qa h7 a2 v6 1 fun h8 =>
some ((.tup []), h8)
theorem S59_eq (c : CV) (a0 a1 a2 : AV) (h : AH) : qH Tryz.prog NN P59 c 59 [a0, a1, a2] h = S59 c a0 a1 a2 h := by kernel_rfl
def W59 : WF := w_3 S59
theorem W59_ok : WOk Tryz.prog 59 W59 := zd (pl := P59) fun _ _ _ _ _ => by rw [S59_eq]
def P60 : Pl := (.n none .z (.n none (.n none (.r [[13, 7, 1, 0]]) .z) .z))
def S60 (c : CV) (a0 a1 : AV) (h : AH) : R :=
qA .eql a1 (iI 0) fun v0 =>
qb (α := AV × AV × AV × AV × Unit → AH → R) (fun s1 h2 =>
jz s1.2.1 (.bool true) s1.1 fun v4 =>
qD v4 (
some ((iI 0), h2)) (
qx c (.fn 85 [] []) [s1.2.2.2.1, s1.2.2.1, (iI 0)] h2 fun v5 h6 =>
qx c (.fn 60 [] []) [s1.2.2.2.1, v5] h6 fun v7 h8 =>
qx c (.fn 85 [] []) [s1.2.2.2.1, s1.2.2.1, (iI 1)] h8 fun v9 h10 =>
qx c (.fn 60 [] []) [s1.2.2.2.1, v9] h10 fun v11 h12 =>
pMM true [v7, v11] fun v13 =>
qA .add (iI 1) v13 fun v14 =>
some (v14, h12))) fun j3 =>
jG v0 false (
qe a0 fun v15 =>
qV v15 0 fun v16 =>
qW h v16 fun v17 =>
qx c (.fn 84 [] []) [v17] h fun v18 h19 =>
pUn .not v18 fun v20 =>
j3 (v20, v0, a1, a0, ()) h19) (
j3 (.undef, v0, a1, a0, ()) h)
theorem S60_eq (c : CV) (a0 a1 : AV) (h : AH) : qH Tryz.prog NN P60 c 60 [a0, a1] h = S60 c a0 a1 h := by kernel_rfl
def W60 : WF := w_2 S60
theorem W60_ok : WOk Tryz.prog 60 W60 := je (pl := P60) fun _ _ _ _ => by rw [S60_eq]
def P61 : Pl := .z
def S61 (c : CV) (a0 : AV) (h : AH) : R :=
qe a0 fun v0 =>
qV v0 0 fun v1 =>
qW h v1 fun v2 =>
qe a0 fun v3 =>
qV v3 1 fun v4 =>
qW h v4 fun v5 =>
qx c (.fn 93 [] []) [v2, v5] h fun v6 h7 =>
some (v6, h7)
theorem S61_eq (c : CV) (a0 : AV) (h : AH) : qH Tryz.prog NN P61 c 61 [a0] h = S61 c a0 h := by kernel_rfl
def W61 : WF := w_1 S61
theorem W61_ok : WOk Tryz.prog 61 W61 := j0 (pl := P61) fun _ _ _ => by rw [S61_eq]
def P62 : Pl := (.n none .z (.r [[]]))
def S62 (c : CV) (a0 a1 a2 a3 a4 : AV) (h : AH) : R :=
qW h a1 fun v0 =>
jW [.nilp, (iI 0), .nils] [(0, 1, a0), (1, 1, v0)] fun v1 =>
jb h 106 v1 fun v2 h3 =>
qb (α := Unit → AH → R) (fun _ h5 =>
some ((.tup []), h5)) fun j6 =>
qx c (.fn 61 [] []) [v2] h3 fun v7 h8 =>
qW h8 a2 fun v9 =>
qW h8 a3 fun v10 =>
qx c (.fn 63 [] []) [v2, v7, v9, v10, .nils] h8 fun v11 h12 =>
qa h12 a4 v11 1 fun h13 =>
vE a3 none v10 h3 h8 h3.nx <|
vE a2 none v9 h3 h8 h3.nx <|
j6 (()) h13
theorem S62_eq (c : CV) (a0 a1 a2 a3 a4 : AV) (h : AH) : qH Tryz.prog NN P62 c 62 [a0, a1, a2, a3, a4] h = S62 c a0 a1 a2 a3 a4 h := by kernel_rfl
def W62 : WF := w_5 S62
theorem W62_ok : WOk Tryz.prog 62 W62 := KP (pl := P62) fun _ _ _ _ _ _ _ => by rw [S62_eq]
def P63 : Pl := (.n none .z (.n none (.n none (.r [[20, 14, 4, 3, 2, 1, 0]]) .z) (.n none .z (.n (some [11, 4, 3, 2, 1, 0]) .z (.n (some [11, 4, 3, 2, 1, 0]) (.n none (.r [[47, 44, 11, 4, 3, 2, 1, 0]]) .z) (.n (some [4]) .z .z))))))
def S63 (c : CV) (a0 a1 a2 a3 a4 : AV) (h : AH) : R :=
qA .eql a1 (iI 0) fun v0 =>
qb (α := AV × AV × AV × AV × AV × AV × AV × Unit → AH → R) (fun s1 h2 =>
jz s1.2.1 (.bool true) s1.1 fun v4 =>
qD v4 (
some (s1.2.2.1, h2)) (
qe s1.2.2.2.2.2.2.1 fun v5 =>
qV v5 0 fun v6 =>
qW h2 v6 fun v7 =>
qA .add s1.2.2.2.2.2.1 (iI 0) fun v8 =>
qx c (.fn 65 [] []) [v7, v8] h2 fun v9 h10 =>
qb (α := AV × AV × AV × AV × AV × AV × Unit → AH → List Nat → R) (fun s11 h12 d13 =>
qb (α := AV × AV × AV × AV × AV × AV × Unit → AH → List Nat → R) (fun s15 h16 d17 =>
qb (α := AV × Unit → AH → List Nat → R) (fun s19 h20 d21 =>
qd d21 h20 fun h23 =>
some (s19.1, h23)) fun j22 =>
qA .lss s15.1 s15.2.2.1 fun v24 =>
qD v24 (
qx c (.fn 85 [] []) [s15.2.2.2.2.2.1, s15.2.2.2.2.1, (iI 1)] h16 fun v25 h26 =>
qx c (.fn 63 [] []) [s15.2.2.2.2.2.1, v25, s15.2.2.2.1, s15.2.2.1, s15.2.1] h26 fun v27 h28 =>
j22 (v27, ()) h28 d17) (
j22 (s15.2.1, ()) h16 d17)) fun j18 =>
qA .leq s11.2.2.2.1 s11.1 fun v29 =>
qb (α := AV × AV × AV × AV × AV × AV × AV × AV × Unit → AH → R) (fun s30 h31 =>
jz s30.2.1 s30.1 (.bool false) fun v33 =>
qD v33 (
qe s30.2.2.2.2.2.2.2.1 fun v34 =>
qV v34 0 fun v35 =>
qW h31 v35 fun v36 =>
qA .add s30.2.2.2.2.2.2.1 (iI 1) fun v37 =>
qx c (.fn 65 [] []) [v36, v37] h31 fun v38 h39 =>
jW [(uU 0), (uU 0)] [(0, 1, s30.2.2.1), (1, 1, v38)] fun v40 =>
jr h39 78 [(uU 0), (uU 0)] 1 [(0, 2, v40)] fun v41 h42 =>
jp h42 78 2 s30.2.2.2.1 v41 fun v43 h44 =>
j18 (s30.2.2.1, v43, s30.2.2.2.2.1, s30.2.2.2.2.2.1, s30.2.2.2.2.2.2.1, s30.2.2.2.2.2.2.2.1, ()) h44 d13) (
j18 (s30.2.2.1, s30.2.2.2.1, s30.2.2.2.2.1, s30.2.2.2.2.2.1, s30.2.2.2.2.2.2.1, s30.2.2.2.2.2.2.2.1, ()) h31 d13)) fun j32 =>
jG v29 true (
qA .leq s11.1 s11.2.2.1 fun v45 =>
j32 (v45, v29, s11.1, s11.2.1, s11.2.2.1, s11.2.2.2.1, s11.2.2.2.2.1, s11.2.2.2.2.2.1, ()) h12) (
j32 (.undef, v29, s11.1, s11.2.1, s11.2.2.1, s11.2.2.2.1, s11.2.2.2.2.1, s11.2.2.2.2.2.1, ()) h12)) fun j14 =>
qA .lss s1.2.2.2.2.1 v9 fun v46 =>
qD v46 (
qx c (.fn 85 [] []) [s1.2.2.2.2.2.2.1, s1.2.2.2.2.2.1, (iI 0)] h10 fun v47 h48 =>
qx c (.fn 63 [] []) [s1.2.2.2.2.2.2.1, v47, s1.2.2.2.2.1, s1.2.2.2.1, s1.2.2.1] h48 fun v49 h50 =>
j14 (v9, v49, s1.2.2.2.1, s1.2.2.2.2.1, s1.2.2.2.2.2.1, s1.2.2.2.2.2.2.1, ()) h50 []) (
j14 (v9, s1.2.2.1, s1.2.2.2.1, s1.2.2.2.2.1, s1.2.2.2.2.2.1, s1.2.2.2.2.2.2.1, ()) h10 []))) fun j3 =>
jG v0 false (
qe a0 fun v51 =>
qV v51 0 fun v52 =>
qW h v52 fun v53 =>
qx c (.fn 84 [] []) [v53] h fun v54 h55 =>
pUn .not v54 fun v56 =>
j3 (v56, v0, a4, a3, a2, a1, a0, ()) h55) (
j3 (.undef, v0, a4, a3, a2, a1, a0, ()) h)
theorem S63_eq (c : CV) (a0 a1 a2 a3 a4 : AV) (h : AH) : qH Tryz.prog NN P63 c 63 [a0, a1, a2, a3, a4] h = S63 c a0 a1 a2 a3 a4 h := by kernel_rfl
def W63 : WF := w_5 S63
theorem W63_ok : WOk Tryz.prog 63 W63 := KP (pl := P63) fun _ _ _ _ _ _ _ => by rw [S63_eq]
def P64 : Pl := .z
def S64 (c : CV) (a0 a1 a2 a3 a4 : AV) (h : AH) : R :=
qW h a1 fun v0 =>
jW [.nilp, (iI 0), .nils] [(0, 1, a0), (1, 1, v0)] fun v1 =>
jb h 106 v1 fun v2 h3 =>
qW h3 a2 fun v4 =>
qx c (.fn 52 [] []) [v2, v4] h3 fun v5 h6 =>
qA .neq v5 (iI 0) fun v7 =>
qD v7 (
qA .add v5 (iI 1) fun v8 =>
qx c (.fn 65 [] []) [a0, v8] h6 fun v9 h10 =>
qa h10 a3 v9 1 fun h11 =>
qa h11 a4 (.bool true) 1 fun h12 =>
some ((.tup []), h12)) (
some ((.tup []), h6))
theorem S64_eq (c : CV) (a0 a1 a2 a3 a4 : AV) (h : AH) : qH Tryz.prog NN P64 c 64 [a0, a1, a2, a3, a4] h = S64 c a0 a1 a2 a3 a4 h := by kernel_rfl
def W64 : WF := w_5 S64
theorem W64_ok : WOk Tryz.prog 64 W64 := KP (pl := P64) fun _ _ _ _ _ _ _ => by rw [S64_eq]
def P65 : Pl := .z
def S65 (c : CV) (a0 a1 : AV) (h : AH) : R :=
qx c (.fn 53 [] []) [a0] h fun v0 h1 =>
pUn .not v0 fun v2 =>
qD v2 (
some ((uU 0), h1)) (
qe a0 fun v3 =>
qV v3 0 fun v4 =>
qW h1 v4 fun v5 =>
qx c (.fn 81 [] []) [v5, a1] h1 fun v6 h7 =>
qE v6 0 fun v8 =>
qE v6 1 fun v9 =>
qx c (.fn 86 [] []) [a0, v9] h7 fun _ h11 =>
some (v8, h11))
theorem S65_eq (c : CV) (a0 a1 : AV) (h : AH) : qH Tryz.prog NN P65 c 65 [a0, a1] h = S65 c a0 a1 h := by kernel_rfl
def W65 : WF := w_2 S65
theorem W65_ok : WOk Tryz.prog 65 W65 := je (pl := P65) fun _ _ _ _ => by rw [S65_eq]
def P66 : Pl := .z
def S66 (c : CV) (a0 a1 a2 a3 : AV) (h : AH) : R :=
qx c (.fn 68 [] []) [a0, a1, a2] h fun v0 h1 =>
qE v0 0 fun v2 =>
qE v0 1 fun v3 =>
qD v3 (
qe a0 fun v4 =>
qV v4 0 fun v5 =>
ze v5 a1 8 1 fun v6 =>
qW h1 v6 fun v7 =>
jY v7 v2 2 fun v8 =>
qV v8 1 fun v9 =>
qa h1 v9 a3 1 fun h10 =>
some ((.bool false), h10)) (
qe a0 fun v11 =>
qV v11 0 fun v12 =>
ze v12 a1 8 1 fun v13 =>
qW h1 v13 fun v14 =>
zg h1 78 2 v14 none (some v2) fun v15 =>
jp h1 78 2 .nils v15 fun v16 h17 =>
jW [(uU 0), (uU 0)] [(0, 1, a2), (1, 1, a3)] fun v18 =>
jr h17 78 [(uU 0), (uU 0)] 1 [(0, 2, v18)] fun v19 h20 =>
jp h20 78 2 v16 v19 fun v21 h22 =>
qe a0 fun v23 =>
qV v23 0 fun v24 =>
ze v24 a1 8 1 fun v25 =>
qW h22 v25 fun v26 =>
zg h22 78 2 v26 (some v2) none fun v27 =>
jp h22 78 2 v21 v27 fun v28 h29 =>
qe a0 fun v30 =>
qV v30 0 fun v31 =>
ze v31 a1 8 1 fun v32 =>
qa h29 v32 v28 1 fun h33 =>
some ((.bool true), h33))
theorem S66_eq (c : CV) (a0 a1 a2 a3 : AV) (h : AH) : qH Tryz.prog NN P66 c 66 [a0, a1, a2, a3] h = S66 c a0 a1 a2 a3 h := by kernel_rfl
def W66 : WF := w_4 S66
theorem W66_ok : WOk Tryz.prog 66 W66 := Jd (pl := P66) fun _ _ _ _ _ _ => by rw [S66_eq]
def P67 : Pl := .z
def S67 (c : CV) (a0 a1 a2 : AV) (h : AH) : R :=
qx c (.fn 68 [] []) [a0, a1, a2] h fun v0 h1 =>
qE v0 0 fun v2 =>
qE v0 1 fun v3 =>
pUn .not v3 fun v4 =>
qD v4 (
some ((.bool false), h1)) (
qe a0 fun v5 =>
qV v5 0 fun v6 =>
ze v6 a1 8 1 fun v7 =>
qW h1 v7 fun v8 =>
zg h1 78 2 v8 none (some v2) fun v9 =>
jp h1 78 2 .nils v9 fun v10 h11 =>
qe a0 fun v12 =>
qV v12 0 fun v13 =>
ze v13 a1 8 1 fun v14 =>
qW h11 v14 fun v15 =>
qA .add v2 (iI 1) fun v16 =>
zg h11 78 2 v15 (some v16) none fun v17 =>
jp h11 78 2 v10 v17 fun v18 h19 =>
qe a0 fun v20 =>
qV v20 0 fun v21 =>
ze v21 a1 8 1 fun v22 =>
qa h19 v22 v18 1 fun h23 =>
some ((.bool true), h23))
theorem S67_eq (c : CV) (a0 a1 a2 : AV) (h : AH) : qH Tryz.prog NN P67 c 67 [a0, a1, a2] h = S67 c a0 a1 a2 h := by kernel_rfl
def W67 : WF := w_3 S67
theorem W67_ok : WOk Tryz.prog 67 W67 := zd (pl := P67) fun _ _ _ _ _ => by rw [S67_eq]
def P68 : Pl := (.n none .z (.n none .z (.n none (.n none (.n (some [8, 2, 1, 0]) (.n none (.n none (.r [[30, 18, 8, 2, 1, 0]]) .z) .z) .z) .z) (.n none (.r [[56, 44, 34]]) .z))))
def S68 (_ : CV) (a0 a1 a2 : AV) (h : AH) : R :=
zM (σ := AV × AV × AV × AV × Unit) NN (fun i3 s0 h1 d2 =>
qe s0.2.2.2.1 fun v4 =>
qV v4 0 fun v5 =>
ze v5 s0.2.2.1 8 1 fun v6 =>
qW h1 v6 fun v7 =>
jy v7 fun v8 =>
qA .lss s0.1 v8 fun v9 =>
qb (α := AV × AV × AV × AV × AV × AV × Unit → AH → R) (fun s10 h11 =>
jz s10.2.1 s10.1 (.bool false) fun v13 =>
qD v13 (
qA .add s10.2.2.1 (iI 1) fun v14 =>
i3 (v14, s10.2.2.2.1, s10.2.2.2.2.1, s10.2.2.2.2.2.1, ()) h11 d2) (
qe s10.2.2.2.2.2.1 fun v15 =>
qV v15 0 fun v16 =>
ze v16 s10.2.2.2.2.1 8 1 fun v17 =>
qW h11 v17 fun v18 =>
jy v18 fun v19 =>
qA .lss s10.2.2.1 v19 fun v20 =>
qb (α := AV × AV × AV × Unit → AH → R) (fun s21 h22 =>
jz s21.2.1 s21.1 (.bool false) fun v24 =>
qd d2 h22 fun h25 =>
some ((.tup [s21.2.2.1, v24]), h25)) fun j23 =>
jG v20 true (
qe s10.2.2.2.2.2.1 fun v26 =>
qV v26 0 fun v27 =>
ze v27 s10.2.2.2.2.1 8 1 fun v28 =>
qW h11 v28 fun v29 =>
jY v29 s10.2.2.1 2 fun v30 =>
qV v30 0 fun v31 =>
qW h11 v31 fun v32 =>
qA .eql v32 s10.2.2.2.1 fun v33 =>
j23 (v33, v20, s10.2.2.1, ()) h11) (
j23 (.undef, v20, s10.2.2.1, ()) h11))) fun j12 =>
jG v9 true (
qe s0.2.2.2.1 fun v34 =>
qV v34 0 fun v35 =>
ze v35 s0.2.2.1 8 1 fun v36 =>
qW h1 v36 fun v37 =>
jY v37 s0.1 2 fun v38 =>
qV v38 0 fun v39 =>
qW h1 v39 fun v40 =>
qA .lss v40 s0.2.1 fun v41 =>
j12 (v41, v9, s0.1, s0.2.1, s0.2.2.1, s0.2.2.2.1, ()) h1) (
j12 (.undef, v9, s0.1, s0.2.1, s0.2.2.1, s0.2.2.2.1, ()) h1)) ((iI 0), a2, a1, a0, ()) h []
theorem S68_eq (c : CV) (a0 a1 a2 : AV) (h : AH) : qH Tryz.prog NN P68 c 68 [a0, a1, a2] h = S68 c a0 a1 a2 h := by kernel_rfl
def W68 : WF := w_3 S68
theorem W68_ok : WOk Tryz.prog 68 W68 := zd (pl := P68) fun _ _ _ _ _ => by rw [S68_eq]
def P69 : Pl := (.n none .z (.n none .z (.n none (.n none .z (.n none (.n (some [10, 9, 3, 2, 1, 0]) (.n none .z (.n none (.n (some [10, 9, 3, 2, 1, 0]) (.n none (.r [[46, 34, 10, 9, 3, 2, 1, 0]]) .z) .z) .z)) .z) .z)) .z)))
def S69 (_ : CV) (a0 a1 a2 a3 : AV) (h : AH) : R :=
zM (σ := AV × AV × AV × AV × AV × AV × Unit) NN (fun i3 s0 h1 d2 =>
qe s0.2.2.2.2.2.1 fun v4 =>
qV v4 0 fun v5 =>
ze v5 s0.2.2.2.2.1 8 1 fun v6 =>
qW h1 v6 fun v7 =>
jy v7 fun v8 =>
qA .lss s0.1 v8 fun v9 =>
qD v9 (
qb (α := AV × AV × AV × AV × AV × AV × Unit → AH → List Nat → R) (fun s10 h11 d12 =>
qA .add s10.1 (iI 1) fun v14 =>
i3 (v14, s10.2.1, s10.2.2.1, s10.2.2.2.1, s10.2.2.2.2.1, s10.2.2.2.2.2.1, ()) h11 d12) fun j13 =>
qe s0.2.2.2.2.2.1 fun v15 =>
qV v15 0 fun v16 =>
ze v16 s0.2.2.2.2.1 8 1 fun v17 =>
qW h1 v17 fun v18 =>
jY v18 s0.1 2 fun v19 =>
qV v19 0 fun v20 =>
qW h1 v20 fun v21 =>
qA .geq v21 s0.2.2.2.1 fun v22 =>
qb (α := AV × AV × AV × AV × AV × AV × AV × AV × Unit → AH → R) (fun s23 h24 =>
jz s23.2.1 s23.1 (.bool false) fun v26 =>
qD v26 (
qA .add s23.2.2.2.1 (iI 1) fun v27 =>
j13 (s23.2.2.1, v27, s23.2.2.2.2.1, s23.2.2.2.2.2.1, s23.2.2.2.2.2.2.1, s23.2.2.2.2.2.2.2.1, ()) h24 d2) (
j13 (s23.2.2.1, s23.2.2.2.1, s23.2.2.2.2.1, s23.2.2.2.2.2.1, s23.2.2.2.2.2.2.1, s23.2.2.2.2.2.2.2.1, ()) h24 d2)) fun j25 =>
jG v22 true (
qe s0.2.2.2.2.2.1 fun v28 =>
qV v28 0 fun v29 =>
ze v29 s0.2.2.2.2.1 8 1 fun v30 =>
qW h1 v30 fun v31 =>
jY v31 s0.1 2 fun v32 =>
qV v32 0 fun v33 =>
qW h1 v33 fun v34 =>
qA .leq v34 s0.2.2.1 fun v35 =>
j25 (v35, v22, s0.1, s0.2.1, s0.2.2.1, s0.2.2.2.1, s0.2.2.2.2.1, s0.2.2.2.2.2.1, ()) h1) (
j25 (.undef, v22, s0.1, s0.2.1, s0.2.2.1, s0.2.2.2.1, s0.2.2.2.2.1, s0.2.2.2.2.2.1, ()) h1)) (
qd d2 h1 fun h36 =>
some (s0.2.1, h36))) ((iI 0), (iI 0), a3, a2, a1, a0, ()) h []
theorem S69_eq (c : CV) (a0 a1 a2 a3 : AV) (h : AH) : qH Tryz.prog NN P69 c 69 [a0, a1, a2, a3] h = S69 c a0 a1 a2 a3 h := by kernel_rfl
def W69 : WF := w_4 S69
theorem W69_ok : WOk Tryz.prog 69 W69 := Jd (pl := P69) fun _ _ _ _ _ _ => by rw [S69_eq]
def P70 : Pl := (.n none .z (.n none .z (.n none .z (.n none (.n none .z (.n none (.n (some [7, 6, 5, 1]) .z .z) .z)) (.n none (.n none .z (.n none (.n (some [8, 6, 5, 1]) (.n none .z (.n none (.n (some [8, 6, 5, 1]) .z .z) .z)) .z) .z)) .z)))))
def S70 (c : CV) (a0 a1 : AV) (h : AH) : R :=
qx c (.fn 94 [] []) [a0, (iI 0)] h fun v0 h1 =>
qe v0 fun v2 =>
qV v2 0 fun v3 =>
qW h1 v3 fun v4 =>
vL h1 23 [(uU 0)] v4 v4 fun v5 h6 =>
zM (σ := AV × AV × AV × AV × Unit) NN (fun i10 s7 h8 d9 =>
qe s7.2.2.1 fun v11 =>
qV v11 1 fun v12 =>
qW h8 v12 fun v13 =>
jy v13 fun v14 =>
qA .lss s7.1 v14 fun v15 =>
qD v15 (
qe s7.2.2.1 fun v16 =>
qV v16 1 fun v17 =>
qW h8 v17 fun v18 =>
jY v18 s7.1 2 fun v19 =>
qV v19 0 fun v20 =>
qW h8 v20 fun v21 =>
qe s7.2.2.1 fun v22 =>
qV v22 1 fun v23 =>
qW h8 v23 fun v24 =>
jY v24 s7.1 2 fun v25 =>
qV v25 1 fun v26 =>
qW h8 v26 fun v27 =>
jY s7.2.1 v21 1 fun v28 =>
qa h8 v28 v27 1 fun h29 =>
qA .add s7.1 (iI 1) fun v30 =>
i10 (v30, s7.2.1, s7.2.2.1, s7.2.2.2.1, ()) h29 d9) (
zM (σ := AV × AV × AV × AV × Unit) NN (fun i34 s31 h32 d33 =>
jy s31.2.2.2.1 fun v35 =>
qA .lss s31.1 v35 fun v36 =>
qD v36 (
qb (α := AV × AV × AV × AV × Unit → AH → List Nat → R) (fun s37 h38 d39 =>
qA .add s37.1 (iI 1) fun v41 =>
i34 (v41, s37.2.1, s37.2.2.1, s37.2.2.2.1, ()) h38 d39) fun j40 =>
jY s31.2.2.2.1 s31.1 2 fun v42 =>
qV v42 0 fun v43 =>
qW h32 v43 fun v44 =>
qx c (.fn 95 [] []) [s31.2.2.1, v44] h32 fun v45 h46 =>
qD v45 (
jY s31.2.2.2.1 s31.1 2 fun v47 =>
qV v47 0 fun v48 =>
qW h46 v48 fun v49 =>
jY s31.2.2.2.1 s31.1 2 fun v50 =>
qV v50 1 fun v51 =>
qW h46 v51 fun v52 =>
jY s31.2.1 v49 1 fun v53 =>
qa h46 v53 v52 1 fun h54 =>
j40 (s31.1, s31.2.1, s31.2.2.1, s31.2.2.2.1, ()) h54 d33) (
j40 (s31.1, s31.2.1, s31.2.2.1, s31.2.2.2.1, ()) h46 d33)) (
qd d33 h32 fun h55 =>
some (s31.2.1, h55))) ((iI 0), s7.2.1, s7.2.2.1, s7.2.2.2.1, ()) h8 d9)) ((iI 0), v5, v0, a1, ()) h6 []
theorem S70_eq (c : CV) (a0 a1 : AV) (h : AH) : qH Tryz.prog NN P70 c 70 [a0, a1] h = S70 c a0 a1 h := by kernel_rfl
def W70 : WF := w_2 S70
theorem W70_ok : WOk Tryz.prog 70 W70 := je (pl := P70) fun _ _ _ _ => by rw [S70_eq]
def P71 : Pl := (.n none .z (.n none .z (.n (some [7, 5, 1, 0]) (.n none (.r [[19, 18, 7, 5, 1, 0]]) .z) .z)))
def S71 (c : CV) (a0 a1 : AV) (h : AH) : R :=
qx c (.fn 96 [] []) [a0, a1] h fun v0 h1 =>
qE v0 0 fun v2 =>
qE v0 1 fun v3 =>
qE v0 2 fun v4 =>
qb (α := AV × AV × AV × AV × Unit → AH → List Nat → R) (fun s5 h6 d7 =>
qA .neq s5.1 (iI 0) fun v9 =>
qD v9 (
qd d7 h6 fun h10 =>
some (s5.1, h10)) (
qx c (.fn 46 [] []) [s5.2.1] h6 fun v11 h12 =>
qx c (.fn 81 [] []) [s5.2.2.2.1, v11] h12 fun v13 h14 =>
qE v13 0 fun v15 =>
qE v13 1 fun v16 =>
qA .neq v16 (iI 0) fun v17 =>
qD v17 (
qd d7 h14 fun h18 =>
some (v16, h18)) (
jW [(iI 0), (uU 0)] [(0, 1, s5.2.2.1), (1, 1, v15)] fun v19 =>
qx c (.fn 46 [] []) [s5.2.1] h14 fun v20 h21 =>
zH .u64 s5.2.2.1 fun v22 =>
jW [(iI 0), (uU 0)] [(0, 1, v20), (1, 1, v22)] fun v23 =>
jr h21 48 [(iI 0), (uU 0)] 2 [(0, 2, v19), (2, 2, v23)] fun v24 h25 =>
qx c (.fn 82 [] []) [s5.2.2.2.1, v24] h25 fun v26 h27 =>
qd d7 h27 fun h28 =>
some (v26, h28)))) fun j8 =>
qA .eql v4 (iI 0) fun v29 =>
qb (α := AV × AV × AV × AV × AV × AV × Unit → AH → R) (fun s30 h31 =>
jz s30.2.1 s30.1 (.bool false) fun v33 =>
qD v33 (
j8 ((iI 2), s30.2.2.2.1, s30.2.2.2.2.1, s30.2.2.2.2.2.1, ()) h31 []) (
j8 (s30.2.2.1, s30.2.2.2.1, s30.2.2.2.2.1, s30.2.2.2.2.2.1, ()) h31 [])) fun j32 =>
jG v29 true (
j32 (v3, v29, v4, v2, a1, a0, ()) h1) (
j32 (.undef, v29, v4, v2, a1, a0, ()) h1)
theorem S71_eq (c : CV) (a0 a1 : AV) (h : AH) : qH Tryz.prog NN P71 c 71 [a0, a1] h = S71 c a0 a1 h := by kernel_rfl
def W71 : WF := w_2 S71
theorem W71_ok : WOk Tryz.prog 71 W71 := je (pl := P71) fun _ _ _ _ => by rw [S71_eq]
def P72 : Pl := .z
def S72 (c : CV) (h : AH) : R :=
qx c (.fn 76 [] []) [(iI 96)] h fun v0 h1 =>
jW [.nilp, .nils] [(0, 1, v0)] fun v2 =>
jb h1 132 v2 fun v3 h4 =>
some (v3, h4)
theorem S72_eq (c : CV) (h : AH) : qH Tryz.prog NN P72 c 72 [] h = S72 c h := by kernel_rfl
def W72 : WF := w_0 S72
theorem W72_ok : WOk Tryz.prog 72 W72 := qJU (pl := P72) fun _ _ => by rw [S72_eq]
def P73 : Pl := (.n none .z (.n none .z (.n none (.r [[18, 16, 6, 5, 3]]) .z)))
def S73 (c : CV) (a0 a1 a2 a3 : AV) (h : AH) : R :=
qW h a1 fun v0 =>
jW [.nilp, (iI 0), .nils] [(0, 1, a0), (1, 1, v0)] fun v1 =>
jb h 106 v1 fun v2 h3 =>
qW h3 a2 fun v4 =>
qx c (.fn 52 [] []) [v2, v4] h3 fun v5 h6 =>
qA .neq v5 (iI 0) fun v7 =>
qb (α := AV × AV × AV × AV × AV × Unit → AH → R) (fun s8 h9 =>
jz s8.2.1 s8.1 (.bool false) fun v11 =>
qD v11 (
qx c (.fn 74 [] []) [s8.2.2.2.1, s8.2.2.1] h9 fun _ h13 =>
qa h13 s8.2.2.2.2.1 (.bool true) 1 fun h14 =>
some ((.tup []), h14)) (
some ((.tup []), h9))) fun j10 =>
jG v7 true (
qx c (.fn 53 [] []) [a0] h6 fun v15 h16 =>
j10 (v15, v7, v5, v2, a3, ()) h16) (
j10 (.undef, v7, v5, v2, a3, ()) h6)
theorem S73_eq (c : CV) (a0 a1 a2 a3 : AV) (h : AH) : qH Tryz.prog NN P73 c 73 [a0, a1, a2, a3] h = S73 c a0 a1 a2 a3 h := by kernel_rfl
def W73 : WF := w_4 S73
theorem W73_ok : WOk Tryz.prog 73 W73 := Jd (pl := P73) fun _ _ _ _ _ _ => by rw [S73_eq]
def P74 : Pl := (.n (some [1, 0]) (.n none (.r [[15, 11, 1, 0]]) (.n none (.n none .z (.n none (.r [[4, 1, 0]]) (.n none (.r [[4, 0]]) .z))) .z)) (.n none .z (.n (some [5, 1, 0]) .z (.n none .z (.n none .z (.n none (.n (some [1, 0]) .z .z) .z))))))
def S74 (c : CV) (a0 a1 : AV) (h : AH) : R :=
qb (α := AV × AV × Unit → AH → List Nat → R) (fun s0 h1 d2 =>
qx c (.fn 85 [] []) [s0.2.1, s0.1, (iI 0)] h1 fun v4 h5 =>
qb (α := AV × AV × AV × Unit → AH → List Nat → R) (fun s6 h7 d8 =>
qx c (.fn 90 [] []) [s6.2.2.1, s6.2.1] h7 fun v10 h11 =>
qe s6.2.2.1 fun v12 =>
qV v12 2 fun v13 =>
qW h11 v13 fun v14 =>
jy v14 fun v15 =>
qx c (.fn 57 [] []) [s6.2.2.1, v15, s6.1] h11 fun _ h17 =>
qb (α := AV × AV × Unit → AH → List Nat → R) (fun s18 h19 d20 =>
qe s18.2.1 fun v22 =>
qV v22 0 fun v23 =>
qW h19 v23 fun v24 =>
qx c (.fn 99 [] []) [v24, s18.1] h19 fun _ h26 =>
qd d20 h26 fun h27 =>
some ((.tup []), h27)) fun j21 =>
qD v10 (
j21 (s6.2.1, s6.2.2.1, ()) h17 d8) (
qx c (.fn 90 [] []) [s6.2.2.1, s6.1] h17 fun v28 h29 =>
qD v28 (
qx c (.fn 92 [] []) [s6.2.2.1, s6.1, (.bool false)] h29 fun _ h31 =>
j21 (s6.2.1, s6.2.2.1, ()) h31 d8) (
qx c (.fn 98 [] []) [s6.2.2.1] h29 fun _ h33 =>
j21 (s6.2.1, s6.2.2.1, ()) h33 d8))) fun j9 =>
qA .eql v4 (iI 0) fun v34 =>
qD v34 (
qx c (.fn 85 [] []) [s0.2.1, s0.1, (iI 1)] h5 fun v35 h36 =>
j9 (v35, s0.1, s0.2.1, ()) h36 d2) (
j9 (v4, s0.1, s0.2.1, ()) h5 d2)) fun j3 =>
qx c (.fn 85 [] []) [a0, a1, (iI 0)] h fun v37 h38 =>
qA .neq v37 (iI 0) fun v39 =>
qb (α := AV × AV × AV × AV × Unit → AH → R) (fun s40 h41 =>
jz s40.2.1 s40.1 (.bool false) fun v43 =>
qD v43 (
qx c (.fn 97 [] []) [s40.2.2.2.1, s40.2.2.1] h41 fun v44 h45 =>
qb (α := AV × AV × AV × Unit → AH → R) (fun s46 h47 =>
qb (α := AV × AV × Unit → AH → R) (fun s49 h50 =>
j3 (s49.1, s49.2.1, ()) h50 []) fun j51 =>
qe s46.2.2.1 fun v52 =>
qV v52 0 fun v53 =>
qW h47 v53 fun v54 =>
qA .add s46.2.1 (iI 1) fun v55 =>
qe s46.2.2.1 fun v56 =>
qV v56 0 fun v57 =>
qW h47 v57 fun v58 =>
qA .add s46.1 (iI 1) fun v59 =>
qx c (.fn 65 [] []) [v58, v59] h47 fun v60 h61 =>
qx c (.fn 54 [] []) [v54, v55, v60] h61 fun _ h63 =>
vE v53 none v54 h47 h61 h47.nx <|
j51 (s46.1, s46.2.2.1, ()) h63) fun j48 =>
qe s40.2.2.2.1 fun v64 =>
qV v64 0 fun v65 =>
qW h45 v65 fun v66 =>
qA .add s40.2.2.1 (iI 0) fun v67 =>
qe s40.2.2.2.1 fun v68 =>
qV v68 0 fun v69 =>
qW h45 v69 fun v70 =>
qA .add v44 (iI 0) fun v71 =>
qx c (.fn 65 [] []) [v70, v71] h45 fun v72 h73 =>
qx c (.fn 54 [] []) [v66, v67, v72] h73 fun _ h75 =>
vE v65 none v66 h45 h73 h45.nx <|
j48 (v44, s40.2.2.1, s40.2.2.2.1, ()) h75) (
j3 (s40.2.2.1, s40.2.2.2.1, ()) h41 [])) fun j42 =>
jG v39 true (
qx c (.fn 85 [] []) [a0, a1, (iI 1)] h38 fun v76 h77 =>
qA .neq v76 (iI 0) fun v78 =>
j42 (v78, v39, a1, a0, ()) h77) (
j42 (.undef, v39, a1, a0, ()) h38)
theorem S74_eq (c : CV) (a0 a1 : AV) (h : AH) : qH Tryz.prog NN P74 c 74 [a0, a1] h = S74 c a0 a1 h := by kernel_rfl
def W74 : WF := w_2 S74
theorem W74_ok : WOk Tryz.prog 74 W74 := je (pl := P74) fun _ _ _ _ => by rw [S74_eq]
def P75 : Pl := .z
def S75 (_ : CV) (a0 : AV) (h : AH) : R :=
jb h 121 a0 fun v0 h1 =>
some ((.fn 100 [] [v0]), h1)
theorem S75_eq (c : CV) (a0 : AV) (h : AH) : qH Tryz.prog NN P75 c 75 [a0] h = S75 c a0 h := by kernel_rfl
def W75 : WF := w_1 S75
theorem W75_ok : WOk Tryz.prog 75 W75 := j0 (pl := P75) fun _ _ _ => by rw [S75_eq]
def P76 : Pl := .z
def S76 (_ : CV) (a0 : AV) (h : AH) : R :=
pMM false [a0, (iI 96)] fun v0 =>
pMM true [(iI 0), v0] fun v1 =>
jW [(iI 0), .nils] [(0, 1, v1)] fun v2 =>
jb h 155 v2 fun v3 h4 =>
some (v3, h4)
theorem S76_eq (c : CV) (a0 : AV) (h : AH) : qH Tryz.prog NN P76 c 76 [a0] h = S76 c a0 h := by kernel_rfl
def W76 : WF := w_1 S76
theorem W76_ok : WOk Tryz.prog 76 W76 := j0 (pl := P76) fun _ _ _ => by rw [S76_eq]
def P77 : Pl := (.n none .z (.n none .z (.n none (.n none .z (.n none (.n (some [13, 12, 11, 5, 0]) .z .z) .z)) .z)))
def S77 (c : CV) (a0 a1 : AV) (h : AH) : R :=
qx c (.fn 78 [] []) [a0] h fun v0 h1 =>
jy a1 fun v2 =>
zM (σ := AV × AV × AV × AV × AV × Unit) NN (fun i6 s3 h4 d5 =>
qA .lss s3.1 s3.2.1 fun v7 =>
qD v7 (
jY s3.2.2.1 s3.1 2 fun v8 =>
qu h4 v8 2 fun v9 =>
jb h4 48 (.agg [(iI 0), (uU 0)]) fun v10 h11 =>
qa h11 v10 v9 2 fun h12 =>
qV v10 0 fun v13 =>
qW h12 v13 fun v14 =>
qV v10 1 fun v15 =>
qW h12 v15 fun v16 =>
qx c (.fn 101 [] []) [s3.2.2.2.2.1, v14, v16] h12 fun v17 h18 =>
qA .neq v17 (iI 0) fun v19 =>
qD v19 (
qe s3.2.2.2.2.1 fun v20 =>
qV v20 1 fun v21 =>
qa h18 v21 s3.2.2.2.1 1 fun h22 =>
qd d5 h22 fun h23 =>
some (v17, h23)) (
qA .add s3.1 (iI 1) fun v24 =>
i6 (v24, s3.2.1, s3.2.2.1, s3.2.2.2.1, s3.2.2.2.2.1, ()) h18 d5)) (
qd d5 h4 fun h25 =>
some ((iI 0), h25))) ((iI 0), v2, a1, v0, a0, ()) h1 []
theorem S77_eq (c : CV) (a0 a1 : AV) (h : AH) : qH Tryz.prog NN P77 c 77 [a0, a1] h = S77 c a0 a1 h := by kernel_rfl
def W77 : WF := w_2 S77
theorem W77_ok : WOk Tryz.prog 77 W77 := je (pl := P77) fun _ _ _ _ => by rw [S77_eq]
def P78 : Pl := .z
def S78 (c : CV) (a0 : AV) (h : AH) : R :=
qe a0 fun v0 =>
qV v0 1 fun v1 =>
qW h v1 fun v2 =>
qx c (.fn 102 [] []) [v2] h fun v3 h4 =>
some (v3, h4)
theorem S78_eq (c : CV) (a0 : AV) (h : AH) : qH Tryz.prog NN P78 c 78 [a0] h = S78 c a0 h := by kernel_rfl
def W78 : WF := w_1 S78
theorem W78_ok : WOk Tryz.prog 78 W78 := j0 (pl := P78) fun _ _ _ => by rw [S78_eq]
def P80 : Pl := (.n none .z (.n none .z (.n none (.n none .z (.n none (.n (some [14, 13, 12, 3, 0]) .z .z) .z)) (.n none (.n none .z (.n none (.n (some [28, 27, 26, 3]) .z .z) .z)) .z))))
def S80 (c : CV) (a0 : AV) (h : AH) : R :=
qx c (.fn 37 [] []) [a0] h fun v0 h1 =>
qx c (.fn 11 [] []) [v0, (iI 96)] h1 fun v2 h3 =>
qx c (.fn 15 [] []) [a0] h3 fun v4 h5 =>
jy v4 fun v6 =>
zM (σ := AV × AV × AV × AV × AV × Unit) NN (fun i10 s7 h8 d9 =>
qA .lss s7.1 s7.2.1 fun v11 =>
qD v11 (
jY s7.2.2.1 s7.1 2 fun v12 =>
qu h8 v12 2 fun v13 =>
jb h8 48 (.agg [(iI 0), (uU 0)]) fun v14 h15 =>
qa h15 v14 v13 2 fun h16 =>
qV v14 0 fun v17 =>
qW h16 v17 fun v18 =>
qV v14 1 fun v19 =>
qW h16 v19 fun v20 =>
qx c (.fn 20 [] []) [s7.2.2.2.1, v18, v20] h16 fun _ h22 =>
qA .add s7.1 (iI 1) fun v23 =>
i10 (v23, s7.2.1, s7.2.2.1, s7.2.2.2.1, s7.2.2.2.2.1, ()) h22 d9) (
qx c (.fn 21 [] []) [s7.2.2.2.2.1] h8 fun v24 h25 =>
jy v24 fun v26 =>
zM (σ := AV × AV × AV × AV × Unit) NN (fun i30 s27 h28 d29 =>
qA .lss s27.1 s27.2.1 fun v31 =>
qD v31 (
jY s27.2.2.1 s27.1 2 fun v32 =>
qu h28 v32 2 fun v33 =>
jb h28 48 (.agg [(iI 0), (uU 0)]) fun v34 h35 =>
qa h35 v34 v33 2 fun h36 =>
qV v34 0 fun v37 =>
qW h36 v37 fun v38 =>
qV v34 1 fun v39 =>
qW h36 v39 fun v40 =>
qx c (.fn 20 [] []) [s27.2.2.2.1, v38, v40] h36 fun _ h42 =>
qA .add s27.1 (iI 1) fun v43 =>
i30 (v43, s27.2.1, s27.2.2.1, s27.2.2.2.1, ()) h42 d29) (
qd d29 h28 fun h44 =>
some (s27.2.2.2.1, h44))) ((iI 0), v26, v24, s7.2.2.2.1, ()) h25 d9)) ((iI 0), v6, v4, v2, a0, ()) h5 []
theorem S80_eq (c : CV) (a0 : AV) (h : AH) : qH Tryz.prog NN P80 c 80 [a0] h = S80 c a0 h := by kernel_rfl
def W80 : WF := w_1 S80
theorem W80_ok : WOk Tryz.prog 80 W80 := j0 (pl := P80) fun _ _ _ => by rw [S80_eq]
def P81 : Pl := .z
def S81 (c : CV) (a0 a1 : AV) (h : AH) : R :=
qx c (.fn 44 [] []) [a0, a1] h fun v0 h1 =>
pUn .not v0 fun v2 =>
qD v2 (
some ((.tup [(uU 0), (iI 2)]), h1)) (
qe a0 fun v3 =>
qV v3 2 fun v4 =>
qW h1 v4 fun v5 =>
qx c (.fn 103 [] []) [v5, a1] h1 fun v6 h7 =>
qE v6 0 fun v8 =>
qE v6 1 fun v9 =>
qD v9 (
some ((.tup [v8, (iI 0)]), h7)) (
qe a0 fun v10 =>
qV v10 0 fun v11 =>
qW h7 v11 fun v12 =>
jY v12 a1 2 fun v13 =>
qu h7 v13 2 fun v14 =>
jb h7 95 (.agg [(uU 0), (.bool false)]) fun v15 h16 =>
qa h16 v15 v14 2 fun h17 =>
qV v15 1 fun v18 =>
qW h17 v18 fun v19 =>
qD v19 (
qV v15 0 fun v20 =>
qW h17 v20 fun v21 =>
some ((.tup [v21, (iI 0)]), h17)) (
qe a0 fun v22 =>
qV v22 3 fun v23 =>
qa h17 v23 a1 1 fun h24 =>
some ((.tup [(uU 0), (iI 11)]), h24))))
theorem S81_eq (c : CV) (a0 a1 : AV) (h : AH) : qH Tryz.prog NN P81 c 81 [a0, a1] h = S81 c a0 a1 h := by kernel_rfl
def W81 : WF := w_2 S81
theorem W81_ok : WOk Tryz.prog 81 W81 := je (pl := P81) fun _ _ _ _ => by rw [S81_eq]
def P82 : Pl := (.n none .z (.n none (.n none .z (.n none (.n (some [9, 8, 7, 1, 0]) .z .z) .z)) .z))
def S82 (c : CV) (a0 a1 : AV) (h : AH) : R :=
jy a1 fun v0 =>
zM (σ := AV × AV × AV × AV × AV × Unit) NN (fun i4 s1 h2 d3 =>
qA .lss s1.1 s1.2.1 fun v5 =>
qD v5 (
jY s1.2.2.1 s1.1 2 fun v6 =>
qu h2 v6 2 fun v7 =>
jb h2 48 (.agg [(iI 0), (uU 0)]) fun v8 h9 =>
qa h9 v8 v7 2 fun h10 =>
qV v8 0 fun v11 =>
qW h10 v11 fun v12 =>
qx c (.fn 44 [] []) [s1.2.2.2.2.1, v12] h10 fun v13 h14 =>
pUn .not v13 fun v15 =>
qD v15 (
qd d3 h14 fun h16 =>
some ((iI 2), h16)) (
qA .add s1.1 (iI 1) fun v17 =>
i4 (v17, s1.2.1, s1.2.2.1, s1.2.2.2.1, s1.2.2.2.2.1, ()) h14 d3)) (
qe s1.2.2.2.2.1 fun v18 =>
qV v18 2 fun v19 =>
qW h2 v19 fun v20 =>
qx c (.fn 104 [] []) [v20, s1.2.2.2.1] h2 fun v21 h22 =>
qd d3 h22 fun h23 =>
some (v21, h23))) ((iI 0), v0, a1, a1, a0, ()) h []
theorem S82_eq (c : CV) (a0 a1 : AV) (h : AH) : qH Tryz.prog NN P82 c 82 [a0, a1] h = S82 c a0 a1 h := by kernel_rfl
def W82 : WF := w_2 S82
theorem W82_ok : WOk Tryz.prog 82 W82 := je (pl := P82) fun _ _ _ _ => by rw [S82_eq]
def P83 : Pl := .z
def S83 (c : CV) (a0 a1 : AV) (h : AH) : R :=
qe a0 fun v0 =>
qV v0 2 fun v1 =>
qW h v1 fun v2 =>
qx c (.fn 105 [] []) [v2, a1] h fun _ h4 =>
some ((.tup []), h4)
theorem S83_eq (c : CV) (a0 a1 : AV) (h : AH) : qH Tryz.prog NN P83 c 83 [a0, a1] h = S83 c a0 a1 h := by kernel_rfl
def W83 : WF := w_2 S83
theorem W83_ok : WOk Tryz.prog 83 W83 := je (pl := P83) fun _ _ _ _ => by rw [S83_eq]
def P84 : Pl := (.n none .z (.n none .z (.n (some [0]) .z .z)))
def S84 (c : CV) (a0 : AV) (h : AH) : R :=
qe a0 fun v0 =>
qV v0 2 fun v1 =>
qW h v1 fun v2 =>
qA .add v2 (iI 1) fun v3 =>
qe a0 fun v4 =>
qV v4 2 fun v5 =>
qa h v5 v3 1 fun h6 =>
qb (α := AV × Unit → AH → List Nat → R) (fun s7 h8 d9 =>
qx c (.fn 53 [] []) [s7.1] h8 fun v11 h12 =>
qd d9 h12 fun h13 =>
some (v11, h13)) fun j10 =>
qe a0 fun v14 =>
qV v14 2 fun v15 =>
qW h6 v15 fun v16 =>
qA .gtr v16 (iI 2048) fun v17 =>
qD v17 (
qx c (.fn 86 [] []) [a0, (iI 2)] h6 fun _ h19 =>
j10 (a0, ()) h19 []) (
j10 (a0, ()) h6 [])
theorem S84_eq (c : CV) (a0 : AV) (h : AH) : qH Tryz.prog NN P84 c 84 [a0] h = S84 c a0 h := by kernel_rfl
def W84 : WF := w_1 S84
theorem W84_ok : WOk Tryz.prog 84 W84 := j0 (pl := P84) fun _ _ _ => by rw [S84_eq]
def P85 : Pl := (.n none .z (.n none .z (.n none .z (.n none (.r [[6]]) .z))))
def S85 (c : CV) (a0 a1 a2 : AV) (h : AH) : R :=
qA .eql a1 (iI 0) fun v0 =>
qD v0 (
qe a0 fun v1 =>
qV v1 0 fun v2 =>
qW h v2 fun v3 =>
qx c (.fn 86 [] []) [v3, (iI 2)] h fun _ h5 =>
some ((iI 0), h5)) (
qA .eql a2 (iI 1) fun v6 =>
qD v6 (
qe a0 fun v7 =>
qV v7 0 fun v8 =>
qW h v8 fun v9 =>
qA .add a1 (iI 3) fun v10 =>
qx c (.fn 93 [] []) [v9, v10] h fun v11 h12 =>
some (v11, h12)) (
qb (α := AV × Unit → AH → R) (fun s13 h14 =>
some (s13.1, h14)) fun j15 =>
qe a0 fun v16 =>
qV v16 0 fun v17 =>
qW h v17 fun v18 =>
qe a0 fun v19 =>
qV v19 0 fun v20 =>
qW h v20 fun v21 =>
qA .add a1 (iI 2) fun v22 =>
qx c (.fn 65 [] []) [v21, v22] h fun v23 h24 =>
xi .shr v23 (uU 1) fun v25 =>
qx c (.fn 106 [] []) [v18, v25] h24 fun v26 h27 =>
vE v17 none v18 h h24 h.nx <|
j15 (v26, ()) h27))
theorem S85_eq (c : CV) (a0 a1 a2 : AV) (h : AH) : qH Tryz.prog NN P85 c 85 [a0, a1, a2] h = S85 c a0 a1 a2 h := by kernel_rfl
def W85 : WF := w_3 S85
theorem W85_ok : WOk Tryz.prog 85 W85 := zd (pl := P85) fun _ _ _ _ _ => by rw [S85_eq]
def P86 : Pl := .z
def S86 (c : CV) (a0 a1 : AV) (h : AH) : R :=
qx c (.fn 53 [] []) [a0] h fun v0 h1 =>
qD v0 (
qe a0 fun v2 =>
qV v2 1 fun v3 =>
qa h1 v3 a1 1 fun h4 =>
some ((.tup []), h4)) (
some ((.tup []), h1))
theorem S86_eq (c : CV) (a0 a1 : AV) (h : AH) : qH Tryz.prog NN P86 c 86 [a0, a1] h = S86 c a0 a1 h := by kernel_rfl
def W86 : WF := w_2 S86
theorem W86_ok : WOk Tryz.prog 86 W86 := je (pl := P86) fun _ _ _ _ => by rw [S86_eq]
def P87 : Pl := .z
def S87 (c : CV) (a0 a1 a2 : AV) (h : AH) : R :=
qx c (.fn 44 [] []) [a0, a1] h fun v0 h1 =>
pUn .not v0 fun v2 =>
qD v2 (
some ((iI 2), h1)) (
qe a0 fun v3 =>
qV v3 2 fun v4 =>
qW h1 v4 fun v5 =>
qx c (.fn 107 [] []) [v5, a1, a2] h1 fun v6 h7 =>
some (v6, h7))
theorem S87_eq (c : CV) (a0 a1 a2 : AV) (h : AH) : qH Tryz.prog NN P87 c 87 [a0, a1, a2] h = S87 c a0 a1 a2 h := by kernel_rfl
def W87 : WF := w_3 S87
theorem W87_ok : WOk Tryz.prog 87 W87 := zd (pl := P87) fun _ _ _ _ _ => by rw [S87_eq]
def P88 : Pl := .z
def S88 (c : CV) (a0 a1 : AV) (h : AH) : R :=
qx c (.fn 108 [] []) [a1] h fun v0 h1 =>
qA .eql v0 (iI 0) fun v2 =>
qD v2 (
some ((.tup [(iI 0), (iI 3)]), h1)) (
qx c (.fn 46 [] []) [v0] h1 fun v3 h4 =>
qx c (.fn 81 [] []) [a0, v3] h4 fun v5 h6 =>
qE v5 0 fun v7 =>
qE v5 1 fun v8 =>
qA .neq v8 (iI 0) fun v9 =>
qD v9 (
some ((.tup [(iI 0), v8]), h6)) (
qA .neq v7 (uU 0) fun v10 =>
qD v10 (
qx c (.fn 109 [] []) [a0, v0, v7] h6 fun v11 h12 =>
qE v11 0 fun v13 =>
qE v11 1 fun v14 =>
some ((.tup [v13, v14]), h12)) (
qx c (.fn 110 [] []) [a0, v0] h6 fun v15 h16 =>
qE v15 0 fun v17 =>
qE v15 1 fun v18 =>
some ((.tup [v17, v18]), h16))))
theorem S88_eq (c : CV) (a0 a1 : AV) (h : AH) : qH Tryz.prog NN P88 c 88 [a0, a1] h = S88 c a0 a1 h := by kernel_rfl
def W88 : WF := w_2 S88
theorem W88_ok : WOk Tryz.prog 88 W88 := je (pl := P88) fun _ _ _ _ => by rw [S88_eq]
def P89 : Pl := (.n none .z (.r [[]]))
def S89 (c : CV) (a0 a1 a2 a3 : AV) (h : AH) : R :=
qA .eql a2 (iI 1) fun v0 =>
qD v0 (
qe a0 fun v1 =>
qV v1 0 fun v2 =>
qW h v2 fun v3 =>
qA .add a1 (iI 3) fun v4 =>
qx c (.fn 56 [] []) [v3, v4, a3] h fun _ h6 =>
some ((.tup []), h6)) (
qb (α := Unit → AH → R) (fun _ h8 =>
some ((.tup []), h8)) fun j9 =>
qe a0 fun v10 =>
qV v10 0 fun v11 =>
qW h v11 fun v12 =>
qA .add a1 (iI 2) fun v13 =>
zH .u64 a3 fun v14 =>
xi .shl v14 (uU 1) fun v15 =>
qe a0 fun v16 =>
qV v16 0 fun v17 =>
qW h v17 fun v18 =>
qA .add a1 (iI 2) fun v19 =>
qx c (.fn 65 [] []) [v18, v19] h fun v20 h21 =>
qA .and v20 (uU 1) fun v22 =>
qA .or v15 v22 fun v23 =>
qx c (.fn 54 [] []) [v12, v13, v23] h21 fun _ h25 =>
vE v11 none v12 h h21 h.nx <|
j9 (()) h25)
theorem S89_eq (c : CV) (a0 a1 a2 a3 : AV) (h : AH) : qH Tryz.prog NN P89 c 89 [a0, a1, a2, a3] h = S89 c a0 a1 a2 a3 h := by kernel_rfl
def W89 : WF := w_4 S89
theorem W89_ok : WOk Tryz.prog 89 W89 := Jd (pl := P89) fun _ _ _ _ _ _ => by rw [S89_eq]
def P90 : Pl := (.n none .z (.n none (.r [[16, 7]]) .z))
def S90 (c : CV) (a0 a1 : AV) (h : AH) : R :=
qA .neq a1 (iI 0) fun v0 =>
qb (α := AV × AV × Unit → AH → R) (fun s1 h2 =>
jz s1.2.1 s1.1 (.bool false) fun v4 =>
some (v4, h2)) fun j3 =>
jG v0 true (
qe a0 fun v5 =>
qV v5 0 fun v6 =>
qW h v6 fun v7 =>
qA .add a1 (iI 2) fun v8 =>
qx c (.fn 65 [] []) [v7, v8] h fun v9 h10 =>
qA .and v9 (uU 1) fun v11 =>
qA .eql v11 (uU 1) fun v12 =>
j3 (v12, v0, ()) h10) (
j3 (.undef, v0, ()) h)
theorem S90_eq (c : CV) (a0 a1 : AV) (h : AH) : qH Tryz.prog NN P90 c 90 [a0, a1] h = S90 c a0 a1 h := by kernel_rfl
def W90 : WF := w_2 S90
theorem W90_ok : WOk Tryz.prog 90 W90 := je (pl := P90) fun _ _ _ _ => by rw [S90_eq]
def P91 : Pl := (.n none .z (.n (some [5, 0]) (.n none .z (.n none (.r [[5, 0]]) .z)) .z))
def S91 (c : CV) (a0 a1 a2 : AV) (h : AH) : R :=
jb h 140 a1 fun v0 h1 =>
jb h1 140 a2 fun v2 h3 =>
qb (α := AV × AV × Unit → AH → List Nat → R) (fun s4 h5 d6 =>
qV s4.1 0 fun v8 =>
qW h5 v8 fun v9 =>
qV s4.1 1 fun v10 =>
qW h5 v10 fun v11 =>
qA .sub (iI 1) v11 fun v12 =>
qx c (.fn 111 [] []) [s4.2.1, v9, v12] h5 fun v13 h14 =>
qx c (.fn 92 [] []) [s4.2.1, v13, (.bool false)] h14 fun _ h16 =>
qV s4.1 0 fun v17 =>
qW h16 v17 fun v18 =>
qx c (.fn 92 [] []) [s4.2.1, v18, (.bool true)] h16 fun _ h20 =>
qe s4.2.1 fun v21 =>
qV v21 2 fun v22 =>
qW h20 v22 fun v23 =>
jy v23 fun v24 =>
qA .sub v24 (iI 2) fun v25 =>
qx c (.fn 57 [] []) [s4.2.1, v25, v13] h20 fun _ h27 =>
qd d6 h27 fun h28 =>
some ((.tup []), h28)) fun j7 =>
qV v0 1 fun v29 =>
qW h3 v29 fun v30 =>
qV v2 1 fun v31 =>
qW h3 v31 fun v32 =>
qA .neq v30 v32 fun v33 =>
qD v33 (
qb (α := AV × AV × Unit → AH → R) (fun s34 h35 =>
j7 (s34.1, s34.2.1, ()) h35 []) fun j36 =>
qV v2 0 fun v37 =>
qW h3 v37 fun v38 =>
qV v2 1 fun v39 =>
qW h3 v39 fun v40 =>
qV v0 0 fun v41 =>
qW h3 v41 fun v42 =>
qV v2 1 fun v43 =>
qW h3 v43 fun v44 =>
qx c (.fn 111 [] []) [a0, v42, v44] h3 fun v45 h46 =>
qx c (.fn 89 [] []) [a0, v38, v40, v45] h46 fun _ h48 =>
vE v39 none v40 h3 h46 h3.nx <|
vE v37 none v38 h3 h46 h3.nx <|
j36 (v2, a0, ()) h48) (
j7 (v2, a0, ()) h3 [])
theorem S91_eq (c : CV) (a0 a1 a2 : AV) (h : AH) : qH Tryz.prog NN P91 c 91 [a0, a1, a2] h = S91 c a0 a1 a2 h := by kernel_rfl
def W91 : WF := w_3 S91
theorem W91_ok : WOk Tryz.prog 91 W91 := zd (pl := P91) fun _ _ _ _ _ => by rw [S91_eq]
def P92 : Pl := .z
def S92 (c : CV) (a0 a1 a2 : AV) (h : AH) : R :=
qA .eql a1 (iI 0) fun v0 =>
qD v0 (
qe a0 fun v1 =>
qV v1 0 fun v2 =>
qW h v2 fun v3 =>
qx c (.fn 86 [] []) [v3, (iI 2)] h fun _ h5 =>
some ((.tup []), h5)) (
qe a0 fun v6 =>
qV v6 0 fun v7 =>
qW h v7 fun v8 =>
qA .add a1 (iI 2) fun v9 =>
qx c (.fn 65 [] []) [v8, v9] h fun v10 h11 =>
qA .and v10 (uU 1) fun v12 =>
qA .eql v12 (uU 1) fun v13 =>
pEq .bool true v13 a2 fun v14 =>
qD v14 (
qe a0 fun v15 =>
qV v15 0 fun v16 =>
qW h11 v16 fun v17 =>
qA .add a1 (iI 2) fun v18 =>
qA .xor v10 (uU 1) fun v19 =>
qx c (.fn 54 [] []) [v17, v18, v19] h11 fun _ h21 =>
some ((.tup []), h21)) (
some ((.tup []), h11)))
theorem S92_eq (c : CV) (a0 a1 a2 : AV) (h : AH) : qH Tryz.prog NN P92 c 92 [a0, a1, a2] h = S92 c a0 a1 a2 h := by kernel_rfl
def W92 : WF := w_3 S92
theorem W92_ok : WOk Tryz.prog 92 W92 := zd (pl := P92) fun _ _ _ _ _ => by rw [S92_eq]
def P93 : Pl := .z
def S93 (c : CV) (a0 a1 : AV) (h : AH) : R :=
qx c (.fn 65 [] []) [a0, a1] h fun v0 h1 =>
qx c (.fn 106 [] []) [a0, v0] h1 fun v2 h3 =>
some (v2, h3)
theorem S93_eq (c : CV) (a0 a1 : AV) (h : AH) : qH Tryz.prog NN P93 c 93 [a0, a1] h = S93 c a0 a1 h := by kernel_rfl
def W93 : WF := w_2 S93
theorem W93_ok : WOk Tryz.prog 93 W93 := je (pl := P93) fun _ _ _ _ => by rw [S93_eq]
def P94 : Pl := (.n none .z (.n none .z (.n none (.n none .z (.n none (.n (some [6, 5, 0]) (.n none .z (.n none (.n none (.n none .z (.n (some [7, 6, 5, 0]) .z .z)) .z) .z)) .z) .z)) .z)))
def S94 (c : CV) (a0 a1 : AV) (h : AH) : R :=
jy a0 fun v0 =>
qx c (.fn 112 [] []) [v0, a1] h fun v1 h2 =>
zM (σ := AV × AV × AV × Unit) NN (fun i6 s3 h4 d5 =>
qe s3.2.1 fun v7 =>
qV v7 0 fun v8 =>
qW h4 v8 fun v9 =>
qA .lss s3.1 v9 fun v10 =>
qD v10 (
qb (α := AV × AV × AV × AV × Unit → AH → List Nat → R) (fun s11 h12 d13 =>
qe s11.2.2.1 fun v15 =>
qV v15 1 fun v16 =>
qW h12 v16 fun v17 =>
jW [(iI 0), (uU 0)] [(0, 1, s11.2.1), (1, 1, s11.1)] fun v18 =>
jr h12 48 [(iI 0), (uU 0)] 1 [(0, 2, v18)] fun v19 h20 =>
jp h20 48 2 v17 v19 fun v21 h22 =>
qe s11.2.2.1 fun v23 =>
qV v23 1 fun v24 =>
qa h22 v24 v21 1 fun h25 =>
qA .add s11.2.1 (iI 1) fun v26 =>
i6 (v26, s11.2.2.1, s11.2.2.2.1, ()) h25 d13) fun j14 =>
jy s3.2.2.1 fun v27 =>
qA .lss s3.1 v27 fun v28 =>
qD v28 (
jY s3.2.2.1 s3.1 1 fun v29 =>
qW h4 v29 fun v30 =>
j14 (v30, s3.1, s3.2.1, s3.2.2.1, ()) h4 d5) (
j14 ((uU 0), s3.1, s3.2.1, s3.2.2.1, ()) h4 d5)) (
qd d5 h4 fun h31 =>
some (s3.2.1, h31))) ((iI 1), v1, a0, ()) h2 []
theorem S94_eq (c : CV) (a0 a1 : AV) (h : AH) : qH Tryz.prog NN P94 c 94 [a0, a1] h = S94 c a0 a1 h := by kernel_rfl
def W94 : WF := w_2 S94
theorem W94_ok : WOk Tryz.prog 94 W94 := je (pl := P94) fun _ _ _ _ => by rw [S94_eq]
def P95 : Pl := (.n none .z (.n none (.r [[13, 7]]) .z))
def S95 (_ : CV) (a0 a1 : AV) (h : AH) : R :=
qA .geq a1 (iI 1) fun v0 =>
qb (α := AV × AV × Unit → AH → R) (fun s1 h2 =>
jz s1.2.1 s1.1 (.bool false) fun v4 =>
some (v4, h2)) fun j3 =>
jG v0 true (
qe a0 fun v5 =>
qV v5 0 fun v6 =>
qW h v6 fun v7 =>
qA .lss a1 v7 fun v8 =>
j3 (v8, v0, ()) h) (
j3 (.undef, v0, ()) h)
theorem S95_eq (c : CV) (a0 a1 : AV) (h : AH) : qH Tryz.prog NN P95 c 95 [a0, a1] h = S95 c a0 a1 h := by kernel_rfl
def W95 : WF := w_2 S95
theorem W95_ok : WOk Tryz.prog 95 W95 := je (pl := P95) fun _ _ _ _ => by rw [S95_eq]
def P96 : Pl := (.n none .z (.n none (.n none (.r [[17, 13, 1, 0]]) .z) .z))
def S96 (c : CV) (a0 a1 : AV) (h : AH) : R :=
qA .leq a1 (iI 14) fun v0 =>
qb (α := AV × AV × AV × AV × Unit → AH → R) (fun s1 h2 =>
jz s1.2.1 (.bool true) s1.1 fun v4 =>
qD v4 (
some ((.tup [(iI 0), (.bool false), (iI 2)]), h2)) (
qA .sub s1.2.2.1 (iI 1) fun v5 =>
qx c (.fn 81 [] []) [s1.2.2.2.1, v5] h2 fun v6 h7 =>
qE v6 0 fun v8 =>
qE v6 1 fun v9 =>
qA .neq v9 (iI 0) fun v10 =>
qD v10 (
some ((.tup [(iI 0), (.bool false), v9]), h7)) (
qx c (.fn 45 [] []) [v8] h7 fun v11 h12 =>
qE v11 0 fun v13 =>
qE v11 1 fun v14 =>
qA .eql v13 (iI 0) fun v15 =>
qD v15 (
some ((.tup [(iI 0), (.bool false), (iI 2)]), h12)) (
some ((.tup [v13, v14, (iI 0)]), h12))))) fun j3 =>
jG v0 false (
qx c (.fn 37 [] []) [a0] h fun v16 h17 =>
qA .geq a1 v16 fun v18 =>
j3 (v18, v0, a1, a0, ()) h17) (
j3 (.undef, v0, a1, a0, ()) h)
theorem S96_eq (c : CV) (a0 a1 : AV) (h : AH) : qH Tryz.prog NN P96 c 96 [a0, a1] h = S96 c a0 a1 h := by kernel_rfl
def W96 : WF := w_2 S96
theorem W96_ok : WOk Tryz.prog 96 W96 := je (pl := P96) fun _ _ _ _ => by rw [S96_eq]
def P97 : Pl := (.n none .z (.n none .z (.n none .z (.n none (.n (some [1]) (.n (some [1, 0]) .z .z) .z) .z))))
def S97 (c : CV) (a0 a1 : AV) (h : AH) : R :=
qe a0 fun v0 =>
qV v0 2 fun v1 =>
qW h v1 fun v2 =>
jW [(iI 0), (iI 0)] [(0, 1, a1), (1, 1, (iI 1))] fun v3 =>
jr h 140 [(iI 0), (iI 0)] 1 [(0, 2, v3)] fun v4 h5 =>
jp h5 140 2 v2 v4 fun v6 h7 =>
qe a0 fun v8 =>
qV v8 2 fun v9 =>
qa h7 v9 v6 1 fun h10 =>
qx c (.fn 85 [] []) [a0, a1, (iI 1)] h10 fun v11 h12 =>
qb (α := AV × Unit → AH → List Nat → R) (fun s13 h14 d15 =>
qd d15 h14 fun h17 =>
some (s13.1, h17)) fun j16 =>
zM (σ := AV × AV × Unit) NN (fun i21 s18 h19 d20 =>
qe s18.2.1 fun v22 =>
qV v22 0 fun v23 =>
qW h19 v23 fun v24 =>
qx c (.fn 84 [] []) [v24] h19 fun v25 h26 =>
qD v25 (
qx c (.fn 85 [] []) [s18.2.1, s18.1, (iI 0)] h26 fun v27 h28 =>
qA .eql v27 (iI 0) fun v29 =>
qD v29 (
j16 (s18.1, ()) h28 d20) (
qe s18.2.1 fun v30 =>
qV v30 2 fun v31 =>
qW h28 v31 fun v32 =>
jW [(iI 0), (iI 0)] [(0, 1, s18.1), (1, 1, (iI 0))] fun v33 =>
jr h28 140 [(iI 0), (iI 0)] 1 [(0, 2, v33)] fun v34 h35 =>
jp h35 140 2 v32 v34 fun v36 h37 =>
qe s18.2.1 fun v38 =>
qV v38 2 fun v39 =>
qa h37 v39 v36 1 fun h40 =>
i21 (v27, s18.2.1, ()) h40 d20)) (
j16 (s18.1, ()) h26 d20)) (v11, a0, ()) h12 []
theorem S97_eq (c : CV) (a0 a1 : AV) (h : AH) : qH Tryz.prog NN P97 c 97 [a0, a1] h = S97 c a0 a1 h := by kernel_rfl
def W97 : WF := w_2 S97
theorem W97_ok : WOk Tryz.prog 97 W97 := je (pl := P97) fun _ _ _ _ => by rw [S97_eq]
def P98 : Pl := (.n none (.n (some [0]) (.n none (.n none (.r [[16, 11, 0]]) .z) (.n (some [0]) (.n none .z (.n none .z (.n none .z (.n none .z (.n none (.n none (.r [[90, 85, 4, 3, 2, 0]]) .z) .z))))) .z)) .z) .z)
def S98 (c : CV) (a0 : AV) (h : AH) : R :=
zM (σ := AV × Unit) NN (fun i3 s0 h1 d2 =>
qe s0.1 fun v4 =>
qV v4 2 fun v5 =>
qW h1 v5 fun v6 =>
jy v6 fun v7 =>
qA .gtr v7 (iI 0) fun v8 =>
qb (α := AV × AV × AV × Unit → AH → R) (fun s9 h10 =>
jz s9.2.1 s9.1 (.bool false) fun v12 =>
qD v12 (
qb (α := AV × Unit → AH → List Nat → R) (fun s13 h14 d15 =>
i3 (s13.1, ()) h14 d15) fun j16 =>
qe s9.2.2.1 fun v17 =>
qV v17 2 fun v18 =>
qW h10 v18 fun v19 =>
jy v19 fun v20 =>
qe s9.2.2.1 fun v21 =>
qV v21 2 fun v22 =>
qW h10 v22 fun v23 =>
qA .sub v20 (iI 1) fun v24 =>
jY v23 v24 2 fun v25 =>
qu h10 v25 2 fun v26 =>
jb h10 140 (.agg [(iI 0), (iI 0)]) fun v27 h28 =>
qa h28 v27 v26 2 fun h29 =>
qV v27 0 fun v30 =>
qW h29 v30 fun v31 =>
qV v27 1 fun v32 =>
qW h29 v32 fun v33 =>
qA .sub (iI 1) v33 fun v34 =>
qx c (.fn 85 [] []) [s9.2.2.1, v31, v34] h29 fun v35 h36 =>
qx c (.fn 90 [] []) [s9.2.2.1, v35] h36 fun v37 h38 =>
qD v37 (
qV v27 0 fun v39 =>
qW h38 v39 fun v40 =>
qV v27 1 fun v41 =>
qW h38 v41 fun v42 =>
qx c (.fn 111 [] []) [s9.2.2.1, v40, v42] h38 fun _ h44 =>
qx c (.fn 92 [] []) [s9.2.2.1, v35, (.bool false)] h44 fun _ h46 =>
qV v27 0 fun v47 =>
qW h46 v47 fun v48 =>
qx c (.fn 92 [] []) [s9.2.2.1, v48, (.bool true)] h46 fun _ h50 =>
qA .sub v20 (iI 1) fun v51 =>
qx c (.fn 57 [] []) [s9.2.2.1, v51, v35] h50 fun _ h53 =>
qe s9.2.2.1 fun v54 =>
qV v54 2 fun v55 =>
qW h53 v55 fun v56 =>
qA .sub v20 (iI 1) fun v57 =>
qV v27 1 fun v58 =>
qW h53 v58 fun v59 =>
jW [(iI 0), (iI 0)] [(0, 1, v35), (1, 1, v59)] fun v60 =>
jY v56 v57 2 fun v61 =>
qa h53 v61 v60 2 fun h62 =>
qe s9.2.2.1 fun v63 =>
qV v63 2 fun v64 =>
qW h62 v64 fun v65 =>
qu h62 v27 2 fun v66 =>
jr h62 140 [(iI 0), (iI 0)] 1 [(0, 2, v66)] fun v67 h68 =>
jp h68 140 2 v65 v67 fun v69 h70 =>
qe s9.2.2.1 fun v71 =>
qV v71 2 fun v72 =>
qa h70 v72 v69 1 fun h73 =>
j16 (s9.2.2.1, ()) h73 d2) (
qx c (.fn 85 [] []) [s9.2.2.1, v35, (iI 0)] h38 fun v74 h75 =>
qx c (.fn 90 [] []) [s9.2.2.1, v74] h75 fun v76 h77 =>
qb (α := AV × AV × AV × AV × AV × AV × Unit → AH → R) (fun s78 h79 =>
jz s78.2.1 (.bool true) s78.1 fun v81 =>
qD v81 (
qu h79 s78.2.2.2.1 2 fun v82 =>
qx c (.fn 113 [] []) [s78.2.2.2.2.2.1, v82, s78.2.2.1] h79 fun _ h84 =>
qd d2 h84 fun h85 =>
some ((.tup []), h85)) (
qx c (.fn 92 [] []) [s78.2.2.2.2.2.1, s78.2.2.1, (.bool true)] h79 fun _ h87 =>
qV s78.2.2.2.1 0 fun v88 =>
qW h87 v88 fun v89 =>
qx c (.fn 90 [] []) [s78.2.2.2.2.2.1, v89] h87 fun v90 h91 =>
qD v90 (
qV s78.2.2.2.1 0 fun v92 =>
qW h91 v92 fun v93 =>
qx c (.fn 92 [] []) [s78.2.2.2.2.2.1, v93, (.bool false)] h91 fun _ h95 =>
qd d2 h95 fun h96 =>
some ((.tup []), h96)) (
qe s78.2.2.2.2.2.1 fun v97 =>
qV v97 2 fun v98 =>
qW h91 v98 fun v99 =>
qA .sub s78.2.2.2.2.1 (iI 1) fun v100 =>
zg h91 140 2 v99 none (some v100) fun v101 =>
qe s78.2.2.2.2.2.1 fun v102 =>
qV v102 2 fun v103 =>
qa h91 v103 v101 1 fun h104 =>
j16 (s78.2.2.2.2.2.1, ()) h104 d2))) fun j80 =>
jG v76 false (
qx c (.fn 85 [] []) [s9.2.2.1, v35, (iI 1)] h77 fun v105 h106 =>
qx c (.fn 90 [] []) [s9.2.2.1, v105] h106 fun v107 h108 =>
j80 (v107, v76, v35, v27, v20, s9.2.2.1, ()) h108) (
j80 (.undef, v76, v35, v27, v20, s9.2.2.1, ()) h77))) (
qd d2 h10 fun h109 =>
some ((.tup []), h109))) fun j11 =>
jG v8 true (
qe s0.1 fun v110 =>
qV v110 0 fun v111 =>
qW h1 v111 fun v112 =>
qx c (.fn 84 [] []) [v112] h1 fun v113 h114 =>
j11 (v113, v8, s0.1, ()) h114) (
j11 (.undef, v8, s0.1, ()) h1)) (a0, ()) h []
theorem S98_eq (c : CV) (a0 : AV) (h : AH) : qH Tryz.prog NN P98 c 98 [a0] h = S98 c a0 h := by kernel_rfl
def W98 : WF := w_1 S98
theorem W98_ok : WOk Tryz.prog 98 W98 := j0 (pl := P98) fun _ _ _ => by rw [S98_eq]
def P99 : Pl := .z
def S99 (c : CV) (a0 a1 : AV) (h : AH) : R :=
qx c (.fn 53 [] []) [a0] h fun v0 h1 =>
qD v0 (
qe a0 fun v2 =>
qV v2 0 fun v3 =>
qW h1 v3 fun v4 =>
qx c (.fn 114 [] []) [v4, a1] h1 fun v5 h6 =>
qx c (.fn 86 [] []) [a0, v5] h6 fun _ h8 =>
some ((.tup []), h8)) (
some ((.tup []), h1))
theorem S99_eq (c : CV) (a0 a1 : AV) (h : AH) : qH Tryz.prog NN P99 c 99 [a0, a1] h = S99 c a0 a1 h := by kernel_rfl
def W99 : WF := w_2 S99
theorem W99_ok : WOk Tryz.prog 99 W99 := je (pl := P99) fun _ _ _ _ => by rw [S99_eq]
def P100 : Pl := (.n none .z (.n none (.n (some [3, 1, 0]) .z .z) .z))
def S100 (c : CV) (a0 a1 : AV) (h : AH) : R :=
qW h a1 fun v0 =>
jy v0 fun v1 =>
qA .sub v1 (iI 1) fun v2 =>
zM (σ := AV × AV × AV × Unit) NN (fun i6 s3 h4 d5 =>
qA .geq s3.1 (iI 0) fun v7 =>
qD v7 (
qW h4 s3.2.1 fun v8 =>
jY v8 s3.1 1 fun v9 =>
qW h4 v9 fun v10 =>
qx c s3.2.2.1 [s3.1, v10] h4 fun v11 h12 =>
pUn .not v11 fun v13 =>
qD v13 (
qd d5 h12 fun h14 =>
some ((.tup []), h14)) (
qA .sub s3.1 (iI 1) fun v15 =>
i6 (v15, s3.2.1, s3.2.2.1, ()) h12 d5)) (
qd d5 h4 fun h16 =>
some ((.tup []), h16))) (v2, a1, a0, ()) h []
theorem S100_eq (c : CV) (a0 a1 : AV) (h : AH) : qH Tryz.prog NN P100 c 100 [a0, a1] h = S100 c a0 a1 h := by kernel_rfl
def W100 : WF := w_2 S100
theorem W100_ok : WOk Tryz.prog 100 W100 := je (pl := P100) fun _ _ _ _ => by rw [S100_eq]
def P101 : Pl := (.n none .z (.n none (.n none (.r [[12, 10, 2, 1, 0]]) .z) .z))
def S101 (c : CV) (a0 a1 a2 : AV) (h : AH) : R :=
qA .lss a1 (iI 1) fun v0 =>
qb (α := AV × AV × AV × AV × AV × Unit → AH → R) (fun s1 h2 =>
jz s1.2.1 (.bool true) s1.1 fun v4 =>
qD v4 (
some ((iI 2), h2)) (
qx c (.fn 115 [] []) [s1.2.2.2.2.1, s1.2.2.2.1] h2 fun v5 h6 =>
qA .geq v5 (iI 0) fun v7 =>
qD v7 (
qe s1.2.2.2.2.1 fun v8 =>
qV v8 1 fun v9 =>
qW h6 v9 fun v10 =>
jY v10 v5 2 fun v11 =>
qV v11 1 fun v12 =>
qa h6 v12 s1.2.2.1 1 fun h13 =>
some ((iI 0), h13)) (
qe s1.2.2.2.2.1 fun v14 =>
qV v14 1 fun v15 =>
qW h6 v15 fun v16 =>
jy v16 fun v17 =>
qe s1.2.2.2.2.1 fun v18 =>
qV v18 0 fun v19 =>
qW h6 v19 fun v20 =>
qA .geq v17 v20 fun v21 =>
qD v21 (
some ((iI 5), h6)) (
qe s1.2.2.2.2.1 fun v22 =>
qV v22 1 fun v23 =>
qW h6 v23 fun v24 =>
jW [(iI 0), (uU 0)] [(0, 1, s1.2.2.2.1), (1, 1, s1.2.2.1)] fun v25 =>
jr h6 48 [(iI 0), (uU 0)] 1 [(0, 2, v25)] fun v26 h27 =>
jp h27 48 2 v24 v26 fun v28 h29 =>
qe s1.2.2.2.2.1 fun v30 =>
qV v30 1 fun v31 =>
qa h29 v31 v28 1 fun h32 =>
some ((iI 0), h32))))) fun j3 =>
jG v0 false (
qA .geq a1 (iI 256) fun v33 =>
j3 (v33, v0, a2, a1, a0, ()) h) (
j3 (.undef, v0, a2, a1, a0, ()) h)
theorem S101_eq (c : CV) (a0 a1 a2 : AV) (h : AH) : qH Tryz.prog NN P101 c 101 [a0, a1, a2] h = S101 c a0 a1 a2 h := by kernel_rfl
def W101 : WF := w_3 S101
theorem W101_ok : WOk Tryz.prog 101 W101 := zd (pl := P101) fun _ _ _ _ _ => by rw [S101_eq]
def P102 : Pl := .z
def S102 (_ : CV) (a0 : AV) (h : AH) : R :=
pEq .slc false a0 .nils fun v0 =>
qD v0 (
some (.nils, h)) (
jr h 48 [(iI 0), (uU 0)] 0 [] fun v1 h2 =>
jp h2 48 2 v1 a0 fun v3 h4 =>
some (v3, h4))
theorem S102_eq (c : CV) (a0 : AV) (h : AH) : qH Tryz.prog NN P102 c 102 [a0] h = S102 c a0 h := by kernel_rfl
def W102 : WF := w_1 S102
theorem W102_ok : WOk Tryz.prog 102 W102 := j0 (pl := P102) fun _ _ _ => by rw [S102_eq]
def P103 : Pl := (.n none .z (.n none (.n none .z (.n none (.n (some [5, 4, 3]) .z .z) .z)) .z))
def S103 (c : CV) (a0 a1 : AV) (h : AH) : R :=
jb h 3 a1 fun v0 h1 =>
jb h1 23 (uU 0) fun v2 h3 =>
jb h3 4 (.bool false) fun v4 h5 =>
qe a0 fun v6 =>
qV v6 1 fun v7 =>
qW h5 v7 fun v8 =>
qx c (.fn 75 [] []) [v8] h5 fun v9 h10 =>
Jl c v9 [.yield (h10.new .dfd).nx] ((h10.new .dfd).new (.loop .ready none 103 [1, 0, 1, 0] [5, 4, 3] [v4, v2, v0] h10.nx)) fun _ h11 =>
vY h11 (h10.new .dfd).nx fun p13 h12 =>
XZ p13 (
qa h12 v2 (uU 0) 1 fun h14 =>
qa h14 v4 (.bool false) 1 fun h15 =>
qd (h10.nx :: []) h15 fun h16 =>
qW h16 v2 fun v17 =>
qW h16 v4 fun v18 =>
some ((.tup [v17, v18]), h16)) <|
pIs p13 .ret (
qd (h10.nx :: []) h12 fun h19 =>
qW h19 v2 fun v20 =>
qW h19 v4 fun v21 =>
some ((.tup [v20, v21]), h19)) <|
none
theorem S103_eq (c : CV) (a0 a1 : AV) (h : AH) : qH Tryz.prog NN P103 c 103 [a0, a1] h = S103 c a0 a1 h := by kernel_rfl
def W103 : WF := w_2 S103
theorem W103_ok : WOk Tryz.prog 103 W103 := je (pl := P103) fun _ _ _ _ => by rw [S103_eq]
def P104 : Pl := (.n none .z (.n none .z (.n none .z (.n none (.n none .z (.n none (.n (some [20, 19, 18, 5, 0]) .z .z) .z)) .z))))
def S104 (c : CV) (a0 a1 : AV) (h : AH) : R :=
qx c (.fn 76 [] []) [(iI 96)] h fun v0 h1 =>
qx c (.fn 117 [] []) [a0] h1 fun v2 h3 =>
qe v2 fun v4 =>
qV v4 0 fun v5 =>
qW h3 v5 fun v6 =>
qx c (.fn 78 [] []) [v6] h3 fun v7 h8 =>
qx c (.fn 77 [] []) [v0, v7] h8 fun _ h10 =>
jy a1 fun v11 =>
zM (σ := AV × AV × AV × AV × AV × Unit) NN (fun i15 s12 h13 d14 =>
qA .lss s12.1 s12.2.1 fun v16 =>
qD v16 (
jY s12.2.2.1 s12.1 2 fun v17 =>
qu h13 v17 2 fun v18 =>
jb h13 48 (.agg [(iI 0), (uU 0)]) fun v19 h20 =>
qa h20 v19 v18 2 fun h21 =>
qV v19 0 fun v22 =>
qW h21 v22 fun v23 =>
qV v19 1 fun v24 =>
qW h21 v24 fun v25 =>
qx c (.fn 107 [] []) [s12.2.2.2.2.1, v23, v25] h21 fun v26 h27 =>
qA .neq v26 (iI 0) fun v28 =>
qD v28 (
qx c (.fn 117 [] []) [s12.2.2.2.2.1] h27 fun v29 h30 =>
qe v29 fun v31 =>
qV v31 0 fun v32 =>
qa h30 v32 s12.2.2.2.1 1 fun h33 =>
qd d14 h33 fun h34 =>
some (v26, h34)) (
qA .add s12.1 (iI 1) fun v35 =>
i15 (v35, s12.2.1, s12.2.2.1, s12.2.2.2.1, s12.2.2.2.2.1, ()) h27 d14)) (
qd d14 h13 fun h36 =>
some ((iI 0), h36))) ((iI 0), v11, a1, v0, a0, ()) h10 []
theorem S104_eq (c : CV) (a0 a1 : AV) (h : AH) : qH Tryz.prog NN P104 c 104 [a0, a1] h = S104 c a0 a1 h := by kernel_rfl
def W104 : WF := w_2 S104
theorem W104_ok : WOk Tryz.prog 104 W104 := je (pl := P104) fun _ _ _ _ => by rw [S104_eq]
def P105 : Pl := .z
def S105 (c : CV) (a0 a1 : AV) (h : AH) : R :=
qx c (.fn 117 [] []) [a0] h fun v0 h1 =>
qe v0 fun v2 =>
qV v2 1 fun v3 =>
qW h1 v3 fun v4 =>
jr h1 3 [(iI 0)] 1 [(0, 1, a1)] fun v5 h6 =>
jp h6 3 1 v4 v5 fun v7 h8 =>
qe v0 fun v9 =>
qV v9 1 fun v10 =>
qa h8 v10 v7 1 fun h11 =>
some ((.tup []), h11)
theorem S105_eq (c : CV) (a0 a1 : AV) (h : AH) : qH Tryz.prog NN P105 c 105 [a0, a1] h = S105 c a0 a1 h := by kernel_rfl
def W105 : WF := w_2 S105
theorem W105_ok : WOk Tryz.prog 105 W105 := je (pl := P105) fun _ _ _ _ => by rw [S105_eq]
def P106 : Pl := .z
def S106 (c : CV) (a0 a1 : AV) (h : AH) : R :=
qA .geq a1 (uU 2147483648) fun v0 =>
qD v0 (
qx c (.fn 86 [] []) [a0, (iI 2)] h fun _ h2 =>
some ((iI 0), h2)) (
zH .i64 a1 fun v3 =>
some (v3, h))
theorem S106_eq (c : CV) (a0 a1 : AV) (h : AH) : qH Tryz.prog NN P106 c 106 [a0, a1] h = S106 c a0 a1 h := by kernel_rfl
def W106 : WF := w_2 S106
theorem W106_ok : WOk Tryz.prog 106 W106 := je (pl := P106) fun _ _ _ _ => by rw [S106_eq]
def P107 : Pl := (.n none .z (.n none (.n none (.r [[14, 12, 2, 1, 0]]) .z) (.n none .z (.n none (.n none .z (.n none (.r [[32, 29, 7, 2, 1]]) .z)) .z))))
def S107 (c : CV) (a0 a1 a2 : AV) (h : AH) : R :=
qA .lss a1 (iI 1) fun v0 =>
qb (α := AV × AV × AV × AV × AV × Unit → AH → R) (fun s1 h2 =>
jz s1.2.1 (.bool true) s1.1 fun v4 =>
qD v4 (
some ((iI 2), h2)) (
qx c (.fn 117 [] []) [s1.2.2.2.2.1] h2 fun v5 h6 =>
qe v5 fun v7 =>
qV v7 0 fun v8 =>
qW h6 v8 fun v9 =>
qx c (.fn 116 [] []) [v9, s1.2.2.2.1] h6 fun v10 h11 =>
qE v10 0 fun _ =>
qE v10 1 fun v13 =>
pUn .not v13 fun v14 =>
qb (α := AV × AV × AV × AV × AV × Unit → AH → R) (fun s15 h16 =>
jz s15.2.1 s15.1 (.bool false) fun v18 =>
qD v18 (
some ((iI 5), h16)) (
qx c (.fn 101 [] []) [s15.2.2.1, s15.2.2.2.2.1, s15.2.2.2.1] h16 fun v19 h20 =>
some (v19, h20))) fun j17 =>
jG v14 true (
qx c (.fn 118 [] []) [s1.2.2.2.2.1] h11 fun v21 h22 =>
qA .eql v21 (iI 0) fun v23 =>
j17 (v23, v14, v9, s1.2.2.1, s1.2.2.2.1, ()) h22) (
j17 (.undef, v14, v9, s1.2.2.1, s1.2.2.2.1, ()) h11))) fun j3 =>
jG v0 false (
qA .geq a1 (iI 256) fun v24 =>
j3 (v24, v0, a2, a1, a0, ()) h) (
j3 (.undef, v0, a2, a1, a0, ()) h)
theorem S107_eq (c : CV) (a0 a1 a2 : AV) (h : AH) : qH Tryz.prog NN P107 c 107 [a0, a1, a2] h = S107 c a0 a1 a2 h := by kernel_rfl
def W107 : WF := w_3 S107
theorem W107_ok : WOk Tryz.prog 107 W107 := zd (pl := P107) fun _ _ _ _ _ => by rw [S107_eq]
def P108 : Pl := (.n none .z (.n none .z (.n none (.n none .z (.n none (.n (some [3, 0]) .z .z) .z)) .z)))
def S108 (c : CV) (a0 : AV) (h : AH) : R :=
qA .lss a0 (iI 1) fun v0 =>
qD v0 (
some ((iI 0), h)) (
zM (σ := AV × AV × Unit) NN (fun i4 s1 h2 d3 =>
qA .leq s1.1 (iI 4) fun v5 =>
qD v5 (
qx c (.fn 23 [] []) [s1.1] h2 fun v6 h7 =>
qA .geq v6 s1.2.1 fun v8 =>
qD v8 (
qd d3 h7 fun h9 =>
some (s1.1, h9)) (
qA .add s1.1 (iI 1) fun v10 =>
i4 (v10, s1.2.1, ()) h7 d3)) (
qd d3 h2 fun h11 =>
some ((iI 0), h11))) ((iI 1), a0, ()) h [])
theorem S108_eq (c : CV) (a0 : AV) (h : AH) : qH Tryz.prog NN P108 c 108 [a0] h = S108 c a0 h := by kernel_rfl
def W108 : WF := w_1 S108
theorem W108_ok : WOk Tryz.prog 108 W108 := j0 (pl := P108) fun _ _ _ => by rw [S108_eq]
def P109 : Pl := (.n none .z (.n none .z (.n none .z (.n none .z (.n (some [10, 8]) .z .z)))))
def S109 (c : CV) (a0 a1 a2 : AV) (h : AH) : R :=
qA .geq a2 (uU 2147483648) fun v0 =>
qD v0 (
some ((.tup [(iI 0), (iI 2)]), h)) (
zH .i64 a2 fun v1 =>
qx c (.fn 81 [] []) [a0, v1] h fun v2 h3 =>
qE v2 0 fun v4 =>
qE v2 1 fun v5 =>
qb (α := AV × AV × Unit → AH → List Nat → R) (fun s6 h7 d8 =>
qA .neq s6.1 (iI 0) fun v10 =>
qD v10 (
qd d8 h7 fun h11 =>
some ((.tup [(iI 0), s6.1]), h11)) (
qd d8 h7 fun h12 =>
some ((.tup [s6.2.1, (iI 0)]), h12))) fun j9 =>
qA .eql v5 (iI 0) fun v13 =>
qD v13 (
qx c (.fn 46 [] []) [a1] h3 fun v14 h15 =>
jW [(iI 0), (uU 0)] [(0, 1, v14), (1, 1, v4)] fun v16 =>
qA .sub v1 (iI 1) fun v17 =>
qA .add a1 (iI 8) fun v18 =>
zH .u64 v18 fun v19 =>
jW [(iI 0), (uU 0)] [(0, 1, v17), (1, 1, v19)] fun v20 =>
jr h15 48 [(iI 0), (uU 0)] 2 [(0, 2, v16), (2, 2, v20)] fun v21 h22 =>
qx c (.fn 82 [] []) [a0, v21] h22 fun v23 h24 =>
j9 (v23, v1, ()) h24 []) (
j9 (v5, v1, ()) h3 []))
theorem S109_eq (c : CV) (a0 a1 a2 : AV) (h : AH) : qH Tryz.prog NN P109 c 109 [a0, a1, a2] h = S109 c a0 a1 a2 h := by kernel_rfl
def W109 : WF := w_3 S109
theorem W109_ok : WOk Tryz.prog 109 W109 := zd (pl := P109) fun _ _ _ _ _ => by rw [S109_eq]
def P110 : Pl := (.n none .z (.n none .z (.n none .z (.n none (.n none (.r [[22, 20, 6, 1, 0], [33, 24, 6, 1, 0]]) .z) .z))))
def S110 (c : CV) (a0 a1 : AV) (h : AH) : R :=
qx c (.fn 81 [] []) [a0, (iI 5)] h fun v0 h1 =>
qE v0 0 fun v2 =>
qE v0 1 fun v3 =>
qA .neq v3 (iI 0) fun v4 =>
qD v4 (
some ((.tup [(iI 0), v3]), h1)) (
qA .lss v2 (uU 14) fun v5 =>
qb (α := AV × AV × AV × AV × AV × Unit → AH → R) (fun s6 h7 =>
jz s6.2.1 (.bool true) s6.1 fun v9 =>
qb (α := AV × AV × AV × AV × AV × Unit → AH → R) (fun s10 h11 =>
jz s10.2.1 (.bool true) s10.1 fun v13 =>
qD v13 (
some ((.tup [(iI 0), (iI 4)]), h11)) (
zH .i64 s10.2.2.1 fun v14 =>
qA .add v14 (iI 1) fun v15 =>
qx c (.fn 23 [] []) [s10.2.2.2.1] h11 fun v16 h17 =>
qA .add v15 v16 fun v18 =>
zH .u64 v18 fun v19 =>
jW [(iI 0), (uU 0)] [(0, 1, (iI 5)), (1, 1, v19)] fun v20 =>
qA .add s10.2.2.2.1 (iI 8) fun v21 =>
zH .u64 v21 fun v22 =>
jW [(iI 0), (uU 0)] [(0, 1, v14), (1, 1, v22)] fun v23 =>
jr h17 48 [(iI 0), (uU 0)] 2 [(0, 2, v20), (2, 2, v23)] fun v24 h25 =>
qx c (.fn 82 [] []) [s10.2.2.2.2.1, v24] h25 fun v26 h27 =>
qA .neq v26 (iI 0) fun v28 =>
qD v28 (
some ((.tup [(iI 0), v26]), h27)) (
qA .add v14 (iI 1) fun v29 =>
some ((.tup [v29, (iI 0)]), h27)))) fun j12 =>
jG v9 false (
zH .i64 s6.2.2.1 fun v30 =>
qA .add v30 (iI 1) fun v31 =>
qx c (.fn 23 [] []) [s6.2.2.2.1] h7 fun v32 h33 =>
qA .add v31 v32 fun v34 =>
qx c (.fn 37 [] []) [s6.2.2.2.2.1] h33 fun v35 h36 =>
qA .gtr v34 v35 fun v37 =>
j12 (v37, v9, s6.2.2.1, s6.2.2.2.1, s6.2.2.2.2.1, ()) h36) (
j12 (.undef, v9, s6.2.2.1, s6.2.2.2.1, s6.2.2.2.2.1, ()) h7)) fun j8 =>
jG v5 false (
qA .geq v2 (uU 2147483648) fun v38 =>
j8 (v38, v5, v2, a1, a0, ()) h1) (
j8 (.undef, v5, v2, a1, a0, ()) h1))
theorem S110_eq (c : CV) (a0 a1 : AV) (h : AH) : qH Tryz.prog NN P110 c 110 [a0, a1] h = S110 c a0 a1 h := by kernel_rfl
def W110 : WF := w_2 S110
theorem W110_ok : WOk Tryz.prog 110 W110 := je (pl := P110) fun _ _ _ _ => by rw [S110_eq]
def P111 : Pl := .z
def S111 (c : CV) (a0 a1 a2 : AV) (h : AH) : R :=
qA .sub (iI 1) a2 fun v0 =>
qx c (.fn 85 [] []) [a0, a1, v0] h fun v1 h2 =>
qA .sub (iI 1) a2 fun v3 =>
qx c (.fn 85 [] []) [a0, v1, a2] h2 fun v4 h5 =>
qx c (.fn 89 [] []) [a0, a1, v3, v4] h5 fun _ h7 =>
qx c (.fn 89 [] []) [a0, v1, a2, a1] h7 fun _ h9 =>
some (v1, h9)
theorem S111_eq (c : CV) (a0 a1 a2 : AV) (h : AH) : qH Tryz.prog NN P111 c 111 [a0, a1, a2] h = S111 c a0 a1 a2 h := by kernel_rfl
def W111 : WF := w_3 S111
theorem W111_ok : WOk Tryz.prog 111 W111 := zd (pl := P111) fun _ _ _ _ _ => by rw [S111_eq]
def P112 : Pl := .z
def S112 (c : CV) (a0 a1 : AV) (h : AH) : R :=
qx c (.fn 119 [] []) [a0, (iI 32), (iI 256)] h fun v0 h1 =>
qx c (.fn 120 [] []) [a1] h1 fun v2 h3 =>
jW [(iI 0), .nils, .nilp, (iI 0)] [(0, 1, v0), (2, 1, v2)] fun v4 =>
jb h3 150 v4 fun v5 h6 =>
some (v5, h6)
theorem S112_eq (c : CV) (a0 a1 : AV) (h : AH) : qH Tryz.prog NN P112 c 112 [a0, a1] h = S112 c a0 a1 h := by kernel_rfl
def W112 : WF := w_2 S112
theorem W112_ok : WOk Tryz.prog 112 W112 := je (pl := P112) fun _ _ _ _ => by rw [S112_eq]
def P113 : Pl := (.n none .z (.n (some [4, 2, 0]) .z .z))
def S113 (c : CV) (a0 a1 a2 : AV) (h : AH) : R :=
jb h 140 a1 fun v0 h1 =>
qb (α := AV × AV × AV × Unit → AH → List Nat → R) (fun s2 h3 d4 =>
qV s2.1 0 fun v6 =>
qW h3 v6 fun v7 =>
qV s2.1 1 fun v8 =>
qW h3 v8 fun v9 =>
qx c (.fn 111 [] []) [s2.2.2.1, v7, v9] h3 fun _ h11 =>
qV s2.1 0 fun v12 =>
qW h11 v12 fun v13 =>
qx c (.fn 90 [] []) [s2.2.2.1, v13] h11 fun v14 h15 =>
qx c (.fn 92 [] []) [s2.2.2.1, s2.2.1, v14] h15 fun _ h17 =>
qV s2.1 0 fun v18 =>
qW h17 v18 fun v19 =>
qx c (.fn 92 [] []) [s2.2.2.1, v19, (.bool false)] h17 fun _ h21 =>
qV s2.1 1 fun v22 =>
qW h21 v22 fun v23 =>
qA .sub (iI 1) v23 fun v24 =>
qx c (.fn 85 [] []) [s2.2.2.1, s2.2.1, v24] h21 fun v25 h26 =>
qx c (.fn 92 [] []) [s2.2.2.1, v25, (.bool false)] h26 fun _ h28 =>
qe s2.2.2.1 fun v29 =>
qV v29 2 fun v30 =>
qW h28 v30 fun v31 =>
jy v31 fun v32 =>
qA .sub v32 (iI 1) fun v33 =>
qx c (.fn 57 [] []) [s2.2.2.1, v33, s2.2.1] h28 fun _ h35 =>
qd d4 h35 fun h36 =>
some ((.tup []), h36)) fun j5 =>
qV v0 1 fun v37 =>
qW h1 v37 fun v38 =>
qA .sub (iI 1) v38 fun v39 =>
qx c (.fn 85 [] []) [a0, a2, v39] h1 fun v40 h41 =>
qx c (.fn 90 [] []) [a0, v40] h41 fun v42 h43 =>
pUn .not v42 fun v44 =>
qD v44 (
qV v0 1 fun v45 =>
qW h43 v45 fun v46 =>
qA .sub (iI 1) v46 fun v47 =>
qx c (.fn 111 [] []) [a0, a2, v47] h43 fun v48 h49 =>
qV v0 0 fun v50 =>
qW h49 v50 fun v51 =>
qV v0 1 fun v52 =>
qW h49 v52 fun v53 =>
qA .sub (iI 1) v53 fun v54 =>
qx c (.fn 89 [] []) [a0, v51, v54, v48] h49 fun _ h56 =>
qx c (.fn 92 [] []) [a0, v48, (.bool false)] h56 fun _ h58 =>
qx c (.fn 92 [] []) [a0, a2, (.bool true)] h58 fun _ h60 =>
j5 (v0, v48, a0, ()) h60 []) (
j5 (v0, a2, a0, ()) h43 [])
theorem S113_eq (c : CV) (a0 a1 a2 : AV) (h : AH) : qH Tryz.prog NN P113 c 113 [a0, a1, a2] h = S113 c a0 a1 a2 h := by kernel_rfl
def W113 : WF := w_3 S113
theorem W113_ok : WOk Tryz.prog 113 W113 := zd (pl := P113) fun _ _ _ _ _ => by rw [S113_eq]
def P114 : Pl := (.n none .z (.n none .z (.n (some [7, 5, 1, 0]) (.n none (.r [[19, 17, 7, 5, 1, 0]]) .z) (.n (some [7, 1, 0]) .z (.n (some [7]) .z .z)))))
def S114 (c : CV) (a0 a1 : AV) (h : AH) : R :=
qx c (.fn 96 [] []) [a0, a1] h fun v0 h1 =>
qE v0 0 fun v2 =>
qE v0 1 fun v3 =>
qE v0 2 fun v4 =>
qb (α := AV × AV × AV × AV × Unit → AH → List Nat → R) (fun s5 h6 d7 =>
qb (α := AV × AV × AV × Unit → AH → List Nat → R) (fun s9 h10 d11 =>
qb (α := AV × Unit → AH → List Nat → R) (fun s13 h14 d15 =>
qd d15 h14 fun h17 =>
some (s13.1, h17)) fun j16 =>
qA .eql s9.1 (iI 0) fun v18 =>
qD v18 (
qx c (.fn 83 [] []) [s9.2.2.1, s9.2.1] h10 fun _ h20 =>
j16 (s9.1, ()) h20 d11) (
j16 (s9.1, ()) h10 d11)) fun j12 =>
qA .eql s5.1 (iI 0) fun v21 =>
qD v21 (
qA .sub s5.2.2.1 (iI 1) fun v22 =>
zH .u64 s5.2.1 fun v23 =>
jW [(iI 0), (uU 0)] [(0, 1, v22), (1, 1, v23)] fun v24 =>
jr h6 48 [(iI 0), (uU 0)] 1 [(0, 2, v24)] fun v25 h26 =>
qx c (.fn 82 [] []) [s5.2.2.2.1, v25] h26 fun v27 h28 =>
j12 (v27, s5.2.2.1, s5.2.2.2.1, ()) h28 d7) (
j12 (s5.1, s5.2.2.1, s5.2.2.2.1, ()) h6 d7)) fun j8 =>
qA .eql v4 (iI 0) fun v29 =>
qb (α := AV × AV × AV × AV × AV × AV × Unit → AH → R) (fun s30 h31 =>
jz s30.2.1 s30.1 (.bool false) fun v33 =>
qD v33 (
j8 ((iI 2), s30.2.2.2.1, s30.2.2.2.2.1, s30.2.2.2.2.2.1, ()) h31 []) (
j8 (s30.2.2.1, s30.2.2.2.1, s30.2.2.2.2.1, s30.2.2.2.2.2.1, ()) h31 [])) fun j32 =>
jG v29 true (
pUn .not v3 fun v34 =>
j32 (v34, v29, v4, v2, a1, a0, ()) h1) (
j32 (.undef, v29, v4, v2, a1, a0, ()) h1)
theorem S114_eq (c : CV) (a0 a1 : AV) (h : AH) : qH Tryz.prog NN P114 c 114 [a0, a1] h = S114 c a0 a1 h := by kernel_rfl
def W114 : WF := w_2 S114
theorem W114_ok : WOk Tryz.prog 114 W114 := je (pl := P114) fun _ _ _ _ => by rw [S114_eq]
def P115 : Pl := .z
def S115 (c : CV) (a0 a1 : AV) (h : AH) : R :=
jb h 3 a1 fun v0 h1 =>
qe a0 fun v2 =>
qV v2 1 fun v3 =>
qW h1 v3 fun v4 =>
qx c (.fn 121 [] []) [v4, (.fn 122 [] [v0])] h1 fun v5 h6 =>
some (v5, h6)
theorem S115_eq (c : CV) (a0 a1 : AV) (h : AH) : qH Tryz.prog NN P115 c 115 [a0, a1] h = S115 c a0 a1 h := by kernel_rfl
def W115 : WF := w_2 S115
theorem W115_ok : WOk Tryz.prog 115 W115 := je (pl := P115) fun _ _ _ _ => by rw [S115_eq]
def P116 : Pl := .z
def S116 (c : CV) (a0 a1 : AV) (h : AH) : R :=
qx c (.fn 115 [] []) [a0, a1] h fun v0 h1 =>
qA .geq v0 (iI 0) fun v2 =>
qD v2 (
qe a0 fun v3 =>
qV v3 1 fun v4 =>
qW h1 v4 fun v5 =>
jY v5 v0 2 fun v6 =>
qV v6 1 fun v7 =>
qW h1 v7 fun v8 =>
some ((.tup [v8, (.bool true)]), h1)) (
some ((.tup [(uU 0), (.bool false)]), h1))
theorem S116_eq (c : CV) (a0 a1 : AV) (h : AH) : qH Tryz.prog NN P116 c 116 [a0, a1] h = S116 c a0 a1 h := by kernel_rfl
def W116 : WF := w_2 S116
theorem W116_ok : WOk Tryz.prog 116 W116 := je (pl := P116) fun _ _ _ _ => by rw [S116_eq]
def P117 : Pl := .z
def S117 (_ : CV) (a0 : AV) (h : AH) : R :=
qe a0 fun v0 =>
qV v0 1 fun v1 =>
qW h v1 fun v2 =>
qe a0 fun v3 =>
qV v3 1 fun v4 =>
qW h v4 fun v5 =>
jy v5 fun v6 =>
qA .sub v6 (iI 1) fun v7 =>
jY v2 v7 1 fun v8 =>
qW h v8 fun v9 =>
some (v9, h)
theorem S117_eq (c : CV) (a0 : AV) (h : AH) : qH Tryz.prog NN P117 c 117 [a0] h = S117 c a0 h := by kernel_rfl
def W117 : WF := w_1 S117
theorem W117_ok : WOk Tryz.prog 117 W117 := j0 (pl := P117) fun _ _ _ => by rw [S117_eq]
def P118 : Pl := (.n none .z (.n none .z (.n none (.n none .z (.n none (.n (some [15, 14, 13, 3]) .z .z) .z)) .z)))
def S118 (c : CV) (a0 : AV) (h : AH) : R :=
qe a0 fun v0 =>
qV v0 0 fun v1 =>
qW h v1 fun v2 =>
qe a0 fun v3 =>
qV v3 1 fun v4 =>
qW h v4 fun v5 =>
jy v5 fun v6 =>
zM (σ := AV × AV × AV × AV × Unit) NN (fun i10 s7 h8 d9 =>
qA .lss s7.1 s7.2.1 fun v11 =>
qD v11 (
jY s7.2.2.1 s7.1 1 fun v12 =>
qW h8 v12 fun v13 =>
qe v13 fun v14 =>
qV v14 0 fun v15 =>
qW h8 v15 fun v16 =>
qx c (.fn 123 [] []) [v16] h8 fun v17 h18 =>
qA .sub s7.2.2.2.1 v17 fun v19 =>
qA .add s7.1 (iI 1) fun v20 =>
i10 (v20, s7.2.1, s7.2.2.1, v19, ()) h18 d9) (
qd d9 h8 fun h21 =>
some (s7.2.2.2.1, h21))) ((iI 0), v6, v5, v2, ()) h []
theorem S118_eq (c : CV) (a0 : AV) (h : AH) : qH Tryz.prog NN P118 c 118 [a0] h = S118 c a0 h := by kernel_rfl
def W118 : WF := w_1 S118
theorem W118_ok : WOk Tryz.prog 118 W118 := j0 (pl := P118) fun _ _ _ => by rw [S118_eq]
def P119 : Pl := .z
def S119 (_ : CV) (a0 a1 a2 : AV) (h : AH) : R :=
qA .lss a0 a1 fun v0 =>
qD v0 (
some (a1, h)) (
qA .gtr a0 a2 fun v1 =>
qD v1 (
some (a2, h)) (
some (a0, h)))
theorem S119_eq (c : CV) (a0 a1 a2 : AV) (h : AH) : qH Tryz.prog NN P119 c 119 [a0, a1, a2] h = S119 c a0 a1 a2 h := by kernel_rfl
def W119 : WF := w_3 S119
theorem W119_ok : WOk Tryz.prog 119 W119 := zd (pl := P119) fun _ _ _ _ _ => by rw [S119_eq]
def P120 : Pl := .z
def S120 (c : CV) (a0 : AV) (h : AH) : R :=
qx c (.fn 119 [] []) [a0, (iI 0), (iI 96)] h fun v0 h1 =>
vL h1 185 [.nils, .nils] (iI 1) (iI 1) fun v2 h3 =>
jW [(iI 0), .nils] [(0, 1, v0), (1, 1, v2)] fun v4 =>
jb h3 168 v4 fun v5 h6 =>
some (v5, h6)
theorem S120_eq (c : CV) (a0 : AV) (h : AH) : qH Tryz.prog NN P120 c 120 [a0] h = S120 c a0 h := by kernel_rfl
def W120 : WF := w_1 S120
theorem W120_ok : WOk Tryz.prog 120 W120 := j0 (pl := P120) fun _ _ _ => by rw [S120_eq]
def P121 : Pl := (.n none .z (.n none (.n none .z (.n none (.n (some [8, 7, 1, 0]) .z .z) .z)) .z))
def S121 (c : CV) (a0 a1 : AV) (h : AH) : R :=
jy a0 fun v0 =>
zM (σ := AV × AV × AV × AV × Unit) NN (fun i4 s1 h2 d3 =>
qA .lss s1.1 s1.2.1 fun v5 =>
qD v5 (
jY s1.2.2.2.1 s1.1 2 fun v6 =>
qu h2 v6 2 fun v7 =>
qx c s1.2.2.1 [v7] h2 fun v8 h9 =>
qD v8 (
qd d3 h9 fun h10 =>
some (s1.1, h10)) (
qA .add s1.1 (iI 1) fun v11 =>
i4 (v11, s1.2.1, s1.2.2.1, s1.2.2.2.1, ()) h9 d3)) (
qd d3 h2 fun h12 =>
some ((.int .i64 (.negSucc 0)), h12))) ((iI 0), v0, a1, a0, ()) h []
theorem S121_eq (c : CV) (a0 a1 : AV) (h : AH) : qH Tryz.prog NN P121 c 121 [a0, a1] h = S121 c a0 a1 h := by kernel_rfl
def W121 : WF := w_2 S121
theorem W121_ok : WOk Tryz.prog 121 W121 := je (pl := P121) fun _ _ _ _ => by rw [S121_eq]
def P122 : Pl := .z
def S122 (_ : CV) (a0 a1 : AV) (h : AH) : R :=
jb h 48 a0 fun v0 h1 =>
qV v0 0 fun v2 =>
qW h1 v2 fun v3 =>
qW h1 a1 fun v4 =>
qA .eql v3 v4 fun v5 =>
some (v5, h1)
theorem S122_eq (c : CV) (a0 a1 : AV) (h : AH) : qH Tryz.prog NN P122 c 122 [a0, a1] h = S122 c a0 a1 h := by kernel_rfl
def W122 : WF := w_2 S122
theorem W122_ok : WOk Tryz.prog 122 W122 := je (pl := P122) fun _ _ _ _ => by rw [S122_eq]
def P123 : Pl := .z
def S123 (_ : CV) (a0 : AV) (h : AH) : R :=
qe a0 fun v0 =>
qV v0 1 fun v1 =>
qW h v1 fun v2 =>
jy v2 fun v3 =>
some (v3, h)
theorem S123_eq (c : CV) (a0 : AV) (h : AH) : qH Tryz.prog NN P123 c 123 [a0] h = S123 c a0 h := by kernel_rfl
def W123 : WF := w_1 S123
theorem W123_ok : WOk Tryz.prog 123 W123 := j0 (pl := P123) fun _ _ _ => by rw [S123_eq]
def Q0 : Pl := (.n none .z .z)
def B0 (c : CV) (l : Nat) (v0 _ a1 : AV) (h : AH) : R :=
Jc h l fun h100 =>
qx c (.fn 76 [] []) [(iI 96)] h100 fun v101 h102 =>
qe a1 fun v103 =>
qV v103 0 fun v104 =>
qW h102 v104 fun v105 =>
qx c (.fn 78 [] []) [v105] h102 fun v106 h107 =>
qx c (.fn 77 [] []) [v101, v106] h107 fun _ h109 =>
qW h109 v0 fun v110 =>
qx c (.fn 77 [] []) [v101, v110] h109 fun _ h112 =>
qx c (.fn 78 [] []) [v101] h112 fun v113 h114 =>
qa h114 v0 v113 1 fun h115 =>
xV h115 l none
theorem B0_eq (c : CV) (l : Nat) (v0 a0 a1 : AV) (h : AH) : Xm Tryz.prog NN Q0 c 41 [1, 1, 0, 1, 0] [3] l [v0] [a0, a1] h = B0 c l v0 a0 a1 h := by kernel_rfl
def V0 (c : CV) (l : Nat) (x y : List AV) (h : AH) : R := match x, y with | [v0], [a0, a1] => B0 c l v0 a0 a1 h | _, _ => none
theorem V0_ok : VOk Tryz.prog 41 [1, 1, 0, 1, 0] [3] V0 := by
  intro c l x y h r e
  unfold V0 at e
  split at e
  · exact ⟨Q0, by rw [B0_eq]; exact e⟩
  · cases e
def Q1 : Pl := (.n none .z .z)
def B1 (c : CV) (l : Nat) (v0 v1 v2 _ a1 : AV) (h : AH) : R :=
Jc h l fun h100 =>
qe a1 fun v101 =>
qV v101 0 fun v102 =>
qW h100 v102 fun v103 =>
qW h100 v2 fun v104 =>
qx c (.fn 116 [] []) [v103, v104] h100 fun v105 h106 =>
qE v105 0 fun v107 =>
qE v105 1 fun v108 =>
qD v108 (
qa h106 v1 v107 1 fun h109 =>
qa h109 v0 (.bool true) 1 fun h110 =>
xV h110 l (some .ret)) (
xV h106 l none)
theorem B1_eq (c : CV) (l : Nat) (v0 v1 v2 a0 a1 : AV) (h : AH) : Xm Tryz.prog NN Q1 c 103 [1, 0, 1, 0] [5, 4, 3] l [v0, v1, v2] [a0, a1] h = B1 c l v0 v1 v2 a0 a1 h := by kernel_rfl
def V1 (c : CV) (l : Nat) (x y : List AV) (h : AH) : R := match x, y with | [v0, v1, v2], [a0, a1] => B1 c l v0 v1 v2 a0 a1 h | _, _ => none
theorem V1_ok : VOk Tryz.prog 103 [1, 0, 1, 0] [5, 4, 3] V1 := by
  intro c l x y h r e
  unfold V1 at e
  split at e
  · exact ⟨Q1, by rw [B1_eq]; exact e⟩
  · cases e
end
end Go.Proofs.YtpohfcljfemhlaaGreat
