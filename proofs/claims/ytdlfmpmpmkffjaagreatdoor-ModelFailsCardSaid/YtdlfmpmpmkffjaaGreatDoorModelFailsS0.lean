/- Printed by a program of mine: the bodies of the program's functions aa terms of the primitives of the abstract executor, each shown equal by the kernel. -/
import Derived.Test.YtdlfmpmpmkffjaaGreatDoorProg
import Derived.Test.YtdlfmpmpmkffjaaGreatDoorModelFailsAe1
import Derived.KernelRfl
namespace Go.Proofs.YtdlfmpmpmkffjaaGreatDoor
open Go Go.Ae
set_option maxRecDepth 100000
noncomputable section
def P8 : Pl := (.n none .z (.n none .z (.n none .z (.n none .z (.n none (.n none (.r [[22, 19, 3], [28, 24, 3], [35, 30, 3], [41, 37, 3], [47, 43, 3], [54, 49, 3]]) .z) (.n none .z (.n none (.r [[68, 64, 4], [75, 70], [80, 77]]) .z)))))))
def S8 (c : CV) (h : AH) : R :=
qW c (.fn 40 [] []) [(iI 40)] h fun v0 h1 =>
qm [(iI 0), (iI 0), (iI 0), (iI 0), (uU 0)] [(0, 1, (iI 1)), (4, 1, (uU 2))] fun v2 =>
qm [(iI 0), (iI 0), (iI 0), (iI 0), (uU 0)] [(0, 1, (iI 10)), (1, 1, (iI 1))] fun v3 =>
qm [(iI 0), (iI 0), (iI 0), (iI 0), (uU 0)] [(0, 1, (iI 9)), (1, 1, (iI 1)), (2, 1, (iI 1))] fun v4 =>
qm [(iI 0), (iI 0), (iI 0), (iI 0), (uU 0)] [(0, 1, (iI 11)), (1, 1, (iI 1))] fun v5 =>
qm [(iI 0), (iI 0), (iI 0), (iI 0), (uU 0)] [(0, 1, (iI 21)), (1, 1, (iI 1))] fun v6 =>
q8 h1 28 [(iI 0), (iI 0), (iI 0), (iI 0), (uU 0)] 5 [(0, 5, v2), (5, 5, v3), (10, 5, v4), (15, 5, v5), (20, 5, v6)] fun v7 h8 =>
qm [.nils] [(0, 1, v7)] fun v9 =>
qW c (.fn 41 [] []) [v0, v9, (iI 20), (iI 9)] h8 fun v10 h11 =>
q9 h11 85 (.agg [(iI 0), (iI 0), (.str []), .nils, .nils, .nils]) fun v12 h13 =>
qv h13 v12 v10 6 fun h14 =>
qJ v12 0 fun v15 =>
qZ h14 v15 fun v16 =>
qq .neq v16 (iI 2) fun v17 =>
qw (α := AV × AV × AV × Unit → AH → R) (fun s18 h19 =>
qn s18.2.1 (.bool true) s18.1 fun v21 =>
qw (α := AV × AV × AV × Unit → AH → R) (fun s22 h23 =>
qn s22.2.1 (.bool true) s22.1 fun v25 =>
qw (α := AV × AV × AV × Unit → AH → R) (fun s26 h27 =>
qn s26.2.1 (.bool true) s26.1 fun v29 =>
qw (α := AV × AV × AV × Unit → AH → R) (fun s30 h31 =>
qn s30.2.1 (.bool true) s30.1 fun v33 =>
qw (α := AV × AV × AV × Unit → AH → R) (fun s34 h35 =>
qn s34.2.1 (.bool true) s34.1 fun v37 =>
qw (α := AV × AV × AV × Unit → AH → R) (fun s38 h39 =>
qn s38.2.1 (.bool true) s38.1 fun v41 =>
qj v41 (
some ((.bool false), h39)) (
qJ s38.2.2.1 5 fun v42 =>
qZ h39 v42 fun v43 =>
qJ s38.2.2.1 4 fun v44 =>
qZ h39 v44 fun v45 =>
qW c (.fn 42 [] []) [v43, v45, (iI 9)] h39 fun v46 h47 =>
q9 h47 85 (.agg [(iI 0), (iI 0), (.str []), .nils, .nils, .nils]) fun v48 h49 =>
qv h49 v48 v46 6 fun h50 =>
qJ v48 0 fun v51 =>
qZ h50 v51 fun v52 =>
qq .eql v52 (iI 2) fun v53 =>
qw (α := AV × AV × AV × Unit → AH → R) (fun s54 h55 =>
qn s54.2.1 s54.1 (.bool false) fun v57 =>
qw (α := AV × AV × Unit → AH → R) (fun s58 h59 =>
qn s58.2.1 s58.1 (.bool false) fun v61 =>
qw (α := AV × AV × Unit → AH → R) (fun s62 h63 =>
qn s62.2.1 s62.1 (.bool false) fun v65 =>
some (v65, h63)) fun j64 =>
qe v61 true (
qW c (.fn 43 [] []) [.nils, .nils] h59 fun v66 h67 =>
qr v66 fun v68 =>
qq .eql v68 (iI 32) fun v69 =>
j64 (v69, v61, ()) h67) (
j64 (.undef, v61, ()) h59)) fun j60 =>
qe v57 true (
qJ s54.2.2.1 5 fun v70 =>
qZ h55 v70 fun v71 =>
jK v71 (iI 1) 1 fun v72 =>
qZ h55 v72 fun v73 =>
qq .eql v73 (uU 15) fun v74 =>
j60 (v74, v57, ()) h55) (
j60 (.undef, v57, ()) h55)) fun j56 =>
qe v53 true (
qJ v48 5 fun v75 =>
qZ h50 v75 fun v76 =>
qr v76 fun v77 =>
qq .eql v77 (iI 40) fun v78 =>
j56 (v78, v53, v48, ()) h50) (
j56 (.undef, v53, v48, ()) h50))) fun j40 =>
qe v37 false (
qJ s34.2.2.1 5 fun v79 =>
qZ h35 v79 fun v80 =>
jK v80 (iI 15) 1 fun v81 =>
qZ h35 v81 fun v82 =>
qq .neq v82 (uU 15) fun v83 =>
j40 (v83, v37, s34.2.2.1, ()) h35) (
j40 (.undef, v37, s34.2.2.1, ()) h35)) fun j36 =>
qe v33 false (
qJ s30.2.2.1 5 fun v84 =>
qZ h31 v84 fun v85 =>
qr v85 fun v86 =>
qq .neq v86 (iI 40) fun v87 =>
j36 (v87, v33, s30.2.2.1, ()) h31) (
j36 (.undef, v33, s30.2.2.1, ()) h31)) fun j32 =>
qe v29 false (
qJ s26.2.2.1 3 fun v88 =>
qZ h27 v88 fun v89 =>
qr v89 fun v90 =>
qq .neq v90 (iI 3) fun v91 =>
j32 (v91, v29, s26.2.2.1, ()) h27) (
j32 (.undef, v29, s26.2.2.1, ()) h27)) fun j28 =>
qe v25 false (
qJ s22.2.2.1 4 fun v92 =>
qZ h23 v92 fun v93 =>
jK v93 (iI 0) 1 fun v94 =>
qZ h23 v94 fun v95 =>
qq .neq v95 (iI 15) fun v96 =>
j28 (v96, v25, s22.2.2.1, ()) h23) (
j28 (.undef, v25, s22.2.2.1, ()) h23)) fun j24 =>
qe v21 false (
qJ s18.2.2.1 4 fun v97 =>
qZ h19 v97 fun v98 =>
qr v98 fun v99 =>
qq .neq v99 (iI 1) fun v100 =>
j24 (v100, v21, s18.2.2.1, ()) h19) (
j24 (.undef, v21, s18.2.2.1, ()) h19)) fun j20 =>
qe v17 false (
qJ v12 2 fun v101 =>
qZ h14 v101 fun v102 =>
Y1 .neq v102 (.str [49, 53]) fun v103 =>
j20 (v103, v17, v12, ()) h14) (
j20 (.undef, v17, v12, ()) h14)
theorem S8_eq (c : CV) (h : AH) : qg Tryz.prog NN P8 c 8 [] h = S8 c h := by kernel_rfl
def W8 : WF := w_0 S8
theorem W8_ok : WOk Tryz.prog 8 W8 := Yl (pl := P8) fun _ _ => by rw [S8_eq]
def P10 : Pl := (.n none .z (.n none .z (.n none .z (.n none .z (.n (some [12, 11, 4, 0]) .z (.n none .z (.n none .z (.n none (.r [[15, 14, 11, 4]]) (.n none (.n none (.r [[43, 40, 15, 14, 11, 4], [49, 45, 15, 14, 11, 4], [55, 51, 15, 14, 11, 4], [60, 57, 15, 14, 11, 4]]) .z) (.n none (.n none .z (.n none (.n none (.r [[72, 68, 15, 14], [78, 74, 15, 14], [83, 78, 74, 14], [85, 74, 14], [88, 85, 74], [89, 74]]) .z) .z)) (.n none (.r [[95, 92, 15, 4], [100, 97, 15, 4], [105, 102, 15], [108, 105, 102, 15], [110, 102, 15], [113, 110, 102, 15], [114, 102, 15], [120, 116, 15], [123, 120, 116], [124, 116]]) .z)))))))))))
def S10 (c : CV) (a0 a1 a2 a3 a4 : AV) (h : AH) : R :=
qW c (.fn 8 [] []) [] h fun v0 h1 =>
pUn .not v0 fun v2 =>
qj v2 (
some ((.bool false), h1)) (
qW c (.fn 22 [] []) [a1, a2, a3] h1 fun v3 h4 =>
qw (α := AV × AV × AV × AV × Unit → AH → List Nat → R) (fun s5 h6 d7 =>
qW c (.fn 23 [] []) [s5.2.2.2.1, (iI 39), (.bool true)] h6 fun v9 h10 =>
q9 h10 31 (.agg [.nils]) fun v11 h12 =>
qv h12 v11 v9 1 fun h13 =>
qT h13 v11 1 fun v14 =>
qW c (.fn 41 [] []) [s5.2.1, v14, (iI 400), (iI 96)] h13 fun v15 h16 =>
q9 h16 85 (.agg [(iI 0), (iI 0), (.str []), .nils, .nils, .nils]) fun v17 h18 =>
qv h18 v17 v15 6 fun h19 =>
qw (α := AV × AV × AV × AV × Unit → AH → R) (fun s20 h21 =>
qJ s20.1 5 fun v23 =>
qZ h21 v23 fun v24 =>
qW c (.fn 46 [] []) [v24, s20.2.2.1] h21 fun v25 h26 =>
pUn .not v25 fun v27 =>
qw (α := AV × AV × AV × AV × AV × AV × Unit → AH → R) (fun s28 h29 =>
qn s28.2.1 (.bool true) s28.1 fun v31 =>
qw (α := AV × AV × AV × AV × AV × AV × Unit → AH → R) (fun s32 h33 =>
qn s32.2.1 (.bool true) s32.1 fun v35 =>
qw (α := AV × AV × AV × AV × AV × AV × Unit → AH → R) (fun s36 h37 =>
qn s36.2.1 (.bool true) s36.1 fun v39 =>
qw (α := AV × AV × AV × AV × AV × AV × Unit → AH → R) (fun s40 h41 =>
qn s40.2.1 (.bool true) s40.1 fun v43 =>
qj v43 (
qP d7 h41 fun h44 =>
some ((.bool false), h44)) (
qJ s40.2.2.2.1 0 fun v45 =>
qZ h41 v45 fun v46 =>
qq .neq v46 (iI 2) fun v47 =>
qj v47 (
qJ s40.2.2.2.1 0 fun v48 =>
qZ h41 v48 fun v49 =>
qq .eql v49 (iI 4) fun v50 =>
qw (α := AV × AV × AV × AV × Unit → AH → R) (fun s51 h52 =>
qn s51.2.1 s51.1 (.bool false) fun v54 =>
qw (α := AV × AV × AV × AV × Unit → AH → R) (fun s55 h56 =>
qw (α := AV × AV × AV × AV × Unit → AH → R) (fun s58 h59 =>
qw (α := AV × AV × AV × Unit → AH → R) (fun s61 h62 =>
qw (α := AV × AV × AV × Unit → AH → R) (fun s64 h65 =>
qw (α := AV × AV × Unit → AH → R) (fun s67 h68 =>
qn s67.2.1 s67.1 (.bool false) fun v70 =>
qP d7 h68 fun h71 =>
some (v70, h71)) fun j69 =>
qe s64.2.2.1 true (
qn s64.2.1 (.bool true) s64.1 fun v72 =>
j69 (v72, s64.2.2.1, ()) h65) (
j69 (.undef, s64.2.2.1, ()) h65)) fun j66 =>
qe s61.1 false (
qJ s61.2.2.1 1 fun v73 =>
qZ h62 v73 fun v74 =>
qq .eql v74 (iI 6) fun v75 =>
j66 (v75, s61.1, s61.2.1, ()) h62) (
j66 (.undef, s61.1, s61.2.1, ()) h62)) fun j63 =>
qe s58.2.2.1 true (
qn s58.2.1 s58.1 (.bool false) fun v76 =>
j63 (v76, s58.2.2.1, s58.2.2.2.1, ()) h59) (
j63 (.undef, s58.2.2.1, s58.2.2.2.1, ()) h59)) fun j60 =>
qe s55.1 true (
qJ s55.2.2.1 1 fun v77 =>
qZ h56 v77 fun v78 =>
qJ s55.2.2.2.1 1 fun v79 =>
qZ h56 v79 fun v80 =>
qq .eql v78 v80 fun v81 =>
j60 (v81, s55.1, s55.2.1, s55.2.2.2.1, ()) h56) (
j60 (.undef, s55.1, s55.2.1, s55.2.2.2.1, ()) h56)) fun j57 =>
qe v54 true (
qJ s51.2.2.1 0 fun v82 =>
qZ h52 v82 fun v83 =>
qq .eql v83 (iI 4) fun v84 =>
j57 (v84, v54, s51.2.2.1, s51.2.2.2.1, ()) h52) (
j57 (.undef, v54, s51.2.2.1, s51.2.2.2.1, ()) h52)) fun j53 =>
qe v50 true (
qJ s40.2.2.2.1 5 fun v85 =>
qZ h41 v85 fun v86 =>
qW c (.fn 46 [] []) [v86, s40.2.2.2.2.1] h41 fun v87 h88 =>
j53 (v87, v50, s40.2.2.1, s40.2.2.2.1, ()) h88) (
j53 (.undef, v50, s40.2.2.1, s40.2.2.2.1, ()) h41)) (
qw (α := AV × AV × AV × AV × Unit → AH → R) (fun s89 h90 =>
qn s89.2.1 s89.1 (.bool false) fun v92 =>
qw (α := AV × AV × AV × AV × Unit → AH → R) (fun s93 h94 =>
qn s93.2.1 s93.1 (.bool false) fun v96 =>
qw (α := AV × AV × AV × Unit → AH → R) (fun s97 h98 =>
qw (α := AV × AV × AV × AV × Unit → AH → R) (fun s100 h101 =>
qw (α := AV × AV × AV × Unit → AH → R) (fun s103 h104 =>
qw (α := AV × AV × AV × AV × Unit → AH → R) (fun s106 h107 =>
qw (α := AV × AV × AV × Unit → AH → R) (fun s109 h110 =>
qn s109.2.1 (.bool true) s109.1 fun v112 =>
qw (α := AV × AV × AV × Unit → AH → R) (fun s113 h114 =>
qw (α := AV × AV × AV × Unit → AH → R) (fun s116 h117 =>
qw (α := AV × AV × Unit → AH → R) (fun s119 h120 =>
qn s119.2.1 (.bool true) s119.1 fun v122 =>
qP d7 h120 fun h123 =>
some (v122, h123)) fun j121 =>
qe s116.2.2.1 false (
qn s116.2.1 s116.1 (.bool false) fun v124 =>
j121 (v124, s116.2.2.1, ()) h117) (
j121 (.undef, s116.2.2.1, ()) h117)) fun j118 =>
qe s113.1 true (
qJ s113.2.2.1 1 fun v125 =>
qZ h114 v125 fun v126 =>
qq .eql v126 (iI 6) fun v127 =>
j118 (v127, s113.1, s113.2.1, ()) h114) (
j118 (.undef, s113.1, s113.2.1, ()) h114)) fun j115 =>
qe v112 false (
qJ s109.2.2.1 0 fun v128 =>
qZ h110 v128 fun v129 =>
qq .eql v129 (iI 4) fun v130 =>
j115 (v130, v112, s109.2.2.1, ()) h110) (
j115 (.undef, v112, s109.2.2.1, ()) h110)) fun j111 =>
qe s106.2.2.1 false (
qn s106.2.1 s106.1 (.bool false) fun v131 =>
j111 (v131, s106.2.2.1, s106.2.2.2.1, ()) h107) (
j111 (.undef, s106.2.2.1, s106.2.2.2.1, ()) h107)) fun j108 =>
qe s103.1 true (
qJ s103.2.2.1 1 fun v132 =>
qZ h104 v132 fun v133 =>
qq .eql v133 (iI 13) fun v134 =>
j108 (v134, s103.1, s103.2.1, s103.2.2.1, ()) h104) (
j108 (.undef, s103.1, s103.2.1, s103.2.2.1, ()) h104)) fun j105 =>
qe s100.2.2.1 false (
qn s100.2.1 s100.1 (.bool false) fun v135 =>
j105 (v135, s100.2.2.1, s100.2.2.2.1, ()) h101) (
j105 (.undef, s100.2.2.1, s100.2.2.2.1, ()) h101)) fun j102 =>
qe s97.1 true (
qJ s97.2.2.1 0 fun v136 =>
qZ h98 v136 fun v137 =>
qq .eql v137 (iI 4) fun v138 =>
j102 (v138, s97.1, s97.2.1, s97.2.2.1, ()) h98) (
j102 (.undef, s97.1, s97.2.1, s97.2.2.1, ()) h98)) fun j99 =>
qe v96 false (
pUn .not s93.2.2.2.1 fun v139 =>
j99 (v139, v96, s93.2.2.1, ()) h94) (
j99 (.undef, v96, s93.2.2.1, ()) h94)) fun j95 =>
qe v92 true (
qJ s89.2.2.1 1 fun v140 =>
qZ h90 v140 fun v141 =>
qq .eql v141 (iI 0) fun v142 =>
j95 (v142, v92, s89.2.2.1, s89.2.2.2.1, ()) h90) (
j95 (.undef, v92, s89.2.2.1, s89.2.2.2.1, ()) h90)) fun j91 =>
qe s40.2.2.2.2.2.1 true (
qJ s40.2.2.1 0 fun v143 =>
qZ h41 v143 fun v144 =>
qq .eql v144 (iI 3) fun v145 =>
j91 (v145, s40.2.2.2.2.2.1, s40.2.2.1, s40.2.2.2.2.2.1, ()) h41) (
j91 (.undef, s40.2.2.2.2.2.1, s40.2.2.1, s40.2.2.2.2.2.1, ()) h41)))) fun j42 =>
qe v39 false (
qJ s36.2.2.1 0 fun v146 =>
qZ h37 v146 fun v147 =>
qq .eql v147 (iI 2) fun v148 =>
j42 (v148, v39, s36.2.2.1, s36.2.2.2.1, s36.2.2.2.2.1, s36.2.2.2.2.2.1, ()) h37) (
j42 (.undef, v39, s36.2.2.1, s36.2.2.2.1, s36.2.2.2.2.1, s36.2.2.2.2.2.1, ()) h37)) fun j38 =>
qe v35 false (
qJ s32.2.2.1 4 fun v149 =>
qZ h33 v149 fun v150 =>
qr v150 fun v151 =>
qq .neq v151 (iI 0) fun v152 =>
j38 (v152, v35, s32.2.2.1, s32.2.2.2.1, s32.2.2.2.2.1, s32.2.2.2.2.2.1, ()) h33) (
j38 (.undef, v35, s32.2.2.1, s32.2.2.2.1, s32.2.2.2.2.1, s32.2.2.2.2.2.1, ()) h33)) fun j34 =>
qe v31 false (
qJ s28.2.2.1 3 fun v153 =>
qZ h29 v153 fun v154 =>
qr v154 fun v155 =>
qq .neq v155 (iI 0) fun v156 =>
j34 (v156, v31, s28.2.2.1, s28.2.2.2.1, s28.2.2.2.2.1, s28.2.2.2.2.2.1, ()) h29) (
j34 (.undef, v31, s28.2.2.1, s28.2.2.2.1, s28.2.2.2.2.1, s28.2.2.2.2.2.1, ()) h29)) fun j30 =>
qe v27 false (
qJ s20.1 2 fun v157 =>
qZ h26 v157 fun v158 =>
Y1 .neq v158 (.str []) fun v159 =>
j30 (v159, v27, s20.1, s20.2.1, s20.2.2.1, s20.2.2.2.1, ()) h26) (
j30 (.undef, v27, s20.1, s20.2.1, s20.2.2.1, s20.2.2.2.1, ()) h26)) fun j22 =>
qT h19 v11 1 fun v160 =>
qW c (.fn 36 [] []) [s5.1] h19 fun v161 h162 =>
q8 h162 31 [.nils] 2 [(0, 1, v160), (1, 1, v161)] fun v163 h164 =>
qW c (.fn 35 [] []) [v163] h164 fun v165 h166 =>
qW c (.fn 41 [] []) [s5.2.1, v165, (iI 400), (iI 96)] h166 fun v167 h168 =>
q9 h168 85 (.agg [(iI 0), (iI 0), (.str []), .nils, .nils, .nils]) fun v169 h170 =>
qv h170 v169 v167 6 fun h171 =>
zQ v11 (some 1) v160 h19 h162 h19.nx <|
j22 (v169, v17, s5.2.1, s5.2.2.1, ()) h171) fun j8 =>
qj a4 (
j8 ((iI 20), v3, a4, a0, ()) h4 []) (
j8 ((iI 22), v3, a4, a0, ()) h4 []))
theorem S10_eq (c : CV) (a0 a1 a2 a3 a4 : AV) (h : AH) : qg Tryz.prog NN P10 c 10 [a0, a1, a2, a3, a4] h = S10 c a0 a1 a2 a3 a4 h := by kernel_rfl
def W10 : WF := w_5 S10
theorem W10_ok : WOk Tryz.prog 10 W10 := gn (pl := P10) fun _ _ _ _ _ _ _ => by rw [S10_eq]
def P11 : Pl := .z
def S11 (c : CV) (a0 a1 : AV) (h : AH) : R :=
pMM false [a0, (iI 256)] fun v0 =>
pMM true [(iI 32), v0] fun v1 =>
yJ h 105 [(uU 0), (.bool false)] v1 v1 fun v2 h3 =>
qW c (.fn 47 [] []) [a1] h3 fun v4 h5 =>
qm [.nils, .nils, .nilp, (iI 0)] [(0, 1, v2), (2, 1, v4)] fun v6 =>
q9 h5 96 v6 fun v7 h8 =>
some (v7, h8)
theorem S11_eq (c : CV) (a0 a1 : AV) (h : AH) : qg Tryz.prog NN P11 c 11 [a0, a1] h = S11 c a0 a1 h := by kernel_rfl
def W11 : WF := w_2 S11
theorem W11_ok : WOk Tryz.prog 11 W11 := jg (pl := P11) fun _ _ _ _ => by rw [S11_eq]
def P12 : Pl := (.n none .z (.n none .z (.n none .z (.n none (.r [[6]]) .z))))
def S12 (c : CV) (a0 a1 a2 : AV) (h : AH) : R :=
q9 h 31 a0 fun v0 h1 =>
qJ v0 0 fun v2 =>
qZ h1 v2 fun v3 =>
jX h1 28 5 .nils v3 fun v4 h5 =>
qJ v0 0 fun v6 =>
qv h5 v6 v4 1 fun h7 =>
qT h7 v0 1 fun v8 =>
qW c (.fn 37 [] []) [v8] h7 fun v9 h10 =>
qB v9 0 fun _ =>
qB v9 1 fun v12 =>
qw (α := AV × Unit → AH → R) (fun s13 h14 =>
some (s13.1, h14)) fun j15 =>
qT h10 v0 1 fun v16 =>
qT h10 v0 1 fun v17 =>
qW c (.fn 48 [] []) [v17] h10 fun v18 h19 =>
qW c (.fn 49 [] []) [] h19 fun v20 h21 =>
pMM false [a2, (iI 400)] fun v22 =>
pMM true [(iI 0), v22] fun v23 =>
qm [.nils, .nilp, .nils, (iI 0), (iI 0), (iI 0), (uU 0), (uU 0), (uU 0), (uU 0), (uU 0), (uU 0), (uU 0), (uU 0), .nilp, (iI 0), (iI 0), (iI 0), .nils] [(0, 1, v16), (1, 1, a1), (2, 1, v18), (3, 1, v12), (14, 1, v20), (17, 1, v23)] fun v24 =>
q9 h21 100 v24 fun v25 h26 =>
zQ v0 (some 1) v16 h19 h21 h10.nx <|
zQ v0 (some 1) v16 h10 h19 h10.nx <|
j15 (v25, ()) h26
theorem S12_eq (c : CV) (a0 a1 a2 : AV) (h : AH) : qg Tryz.prog NN P12 c 12 [a0, a1, a2] h = S12 c a0 a1 a2 h := by kernel_rfl
def W12 : WF := w_3 S12
theorem W12_ok : WOk Tryz.prog 12 W12 := jf (pl := P12) fun _ _ _ _ _ => by rw [S12_eq]
def P13 : Pl := (.n none .z (.n none (.n none (.n (some [0]) (.n none .z (.n (some [0]) (.n none .z (.n none .z (.n none .z (.n none .z (.n (some [0]) .z .z))))) .z)) .z) .z) .z))
def S13 (c : CV) (a0 : AV) (h : AH) : R :=
jd (σ := AV × Unit) NN (fun i3 s0 h1 d2 =>
qC s0.1 fun v4 =>
qJ v4 5 fun v5 =>
qZ h1 v5 fun v6 =>
qq .eql v6 (iI 0) fun v7 =>
qj v7 (
qw (α := AV × Unit → AH → List Nat → R) (fun s8 h9 d10 =>
i3 (s8.1, ()) h9 d10) fun j11 =>
qC s0.1 fun v12 =>
qJ v12 3 fun v13 =>
qZ h1 v13 fun v14 =>
qq .neq v14 (iI 0) fun v15 =>
qj v15 (
qC s0.1 fun v16 =>
qJ v16 3 fun v17 =>
qZ h1 v17 fun v18 =>
qW c (.fn 50 [] []) [s0.1, v18] h1 fun _ h20 =>
j11 (s0.1, ()) h20 d2) (
qC s0.1 fun v21 =>
qJ v21 15 fun v22 =>
qZ h1 v22 fun v23 =>
qC s0.1 fun v24 =>
qJ v24 0 fun v25 =>
qJ v25 0 fun v26 =>
qZ h1 v26 fun v27 =>
qr v27 fun v28 =>
qq .eql v23 v28 fun v29 =>
qj v29 (
qC s0.1 fun v30 =>
qJ v30 5 fun v31 =>
qv h1 v31 (iI 2) 1 fun h32 =>
j11 (s0.1, ()) h32 d2) (
qC s0.1 fun v33 =>
qJ v33 17 fun v34 =>
qZ h1 v34 fun v35 =>
qq .eql v35 (iI 0) fun v36 =>
qj v36 (
qW c (.fn 50 [] []) [s0.1, (iI 6)] h1 fun _ h38 =>
j11 (s0.1, ()) h38 d2) (
qC s0.1 fun v39 =>
qJ v39 15 fun v40 =>
qZ h1 v40 fun v41 =>
qq .add v41 (iI 1) fun v42 =>
qC s0.1 fun v43 =>
qJ v43 16 fun v44 =>
qv h1 v44 v42 1 fun h45 =>
qC s0.1 fun v46 =>
qJ v46 0 fun v47 =>
qJ v47 0 fun v48 =>
qZ h45 v48 fun v49 =>
qC s0.1 fun v50 =>
qJ v50 15 fun v51 =>
qZ h45 v51 fun v52 =>
jK v49 v52 5 fun v53 =>
qT h45 v53 5 fun v54 =>
qW c (.fn 51 [] []) [s0.1, v54] h45 fun v55 h56 =>
qw (α := AV × Unit → AH → List Nat → R) (fun s57 h58 d59 =>
j11 (s57.1, ()) h58 d59) fun j60 =>
qq .eql v55 (iI 0) fun v61 =>
qj v61 (
qC s0.1 fun v62 =>
qJ v62 16 fun v63 =>
qZ h56 v63 fun v64 =>
qC s0.1 fun v65 =>
qJ v65 15 fun v66 =>
qv h56 v66 v64 1 fun h67 =>
qC s0.1 fun v68 =>
qJ v68 17 fun v69 =>
qZ h67 v69 fun v70 =>
qq .sub v70 (iI 1) fun v71 =>
qC s0.1 fun v72 =>
qJ v72 17 fun v73 =>
qv h67 v73 v71 1 fun h74 =>
j60 (s0.1, ()) h74 d2) (
qq .eql v55 (iI 11) fun v75 =>
qj v75 (
qP d2 h56 fun h76 =>
some ((iI 1), h76)) (
qW c (.fn 50 [] []) [s0.1, v55] h56 fun _ h78 =>
j60 (s0.1, ()) h78 d2)))))) (
qC s0.1 fun v79 =>
qJ v79 5 fun v80 =>
qZ h1 v80 fun v81 =>
qP d2 h1 fun h82 =>
some (v81, h82))) (a0, ()) h []
theorem S13_eq (c : CV) (a0 : AV) (h : AH) : qg Tryz.prog NN P13 c 13 [a0] h = S13 c a0 h := by kernel_rfl
def W13 : WF := w_1 S13
theorem W13_ok : WOk Tryz.prog 13 W13 := jY (pl := P13) fun _ _ _ => by rw [S13_eq]
def P14 : Pl := .z
def S14 (_ : CV) (a0 : AV) (h : AH) : R :=
qC a0 fun v0 =>
qJ v0 3 fun v1 =>
qZ h v1 fun v2 =>
some (v2, h)
theorem S14_eq (c : CV) (a0 : AV) (h : AH) : qg Tryz.prog NN P14 c 14 [a0] h = S14 c a0 h := by kernel_rfl
def W14 : WF := w_1 S14
theorem W14_ok : WOk Tryz.prog 14 W14 := jY (pl := P14) fun _ _ _ => by rw [S14_eq]
def P15 : Pl := .z
def S15 (c : CV) (a0 a1 a2 : AV) (h : AH) : R :=
qW c (.fn 52 [] []) [a0, a1] h fun v0 h1 =>
pUn .not v0 fun v2 =>
qj v2 (
some ((iI 2), h1)) (
qC a0 fun v3 =>
qJ v3 0 fun v4 =>
qZ h1 v4 fun v5 =>
jK v5 a1 2 fun v6 =>
qT h1 v6 2 fun v7 =>
q9 h1 105 (.agg [(uU 0), (.bool false)]) fun v8 h9 =>
qv h9 v8 v7 2 fun h10 =>
qJ v8 1 fun v11 =>
qZ h10 v11 fun v12 =>
qj v12 (
qJ v8 0 fun v13 =>
qZ h10 v13 fun v14 =>
qq .neq v14 a2 fun v15 =>
qj v15 (
some ((iI 14), h10)) (
some ((iI 0), h10))) (
qC a0 fun v16 =>
qJ v16 0 fun v17 =>
qZ h10 v17 fun v18 =>
qm [(uU 0), (.bool false)] [(0, 1, a2), (1, 1, (.bool true))] fun v19 =>
jK v18 a1 2 fun v20 =>
qv h10 v20 v19 2 fun h21 =>
qC a0 fun v22 =>
qJ v22 1 fun v23 =>
qZ h21 v23 fun v24 =>
q8 h21 3 [(iI 0)] 1 [(0, 1, a1)] fun v25 h26 =>
jX h26 3 1 v24 v25 fun v27 h28 =>
qC a0 fun v29 =>
qJ v29 1 fun v30 =>
qv h28 v30 v27 1 fun h31 =>
some ((iI 0), h31)))
theorem S15_eq (c : CV) (a0 a1 a2 : AV) (h : AH) : qg Tryz.prog NN P15 c 15 [a0, a1, a2] h = S15 c a0 a1 a2 h := by kernel_rfl
def W15 : WF := w_3 S15
theorem W15_ok : WOk Tryz.prog 15 W15 := jf (pl := P15) fun _ _ _ _ _ => by rw [S15_eq]
def P16 : Pl := .z
def S16 (c : CV) (a0 : AV) (h : AH) : R :=
qC a0 fun v0 =>
qJ v0 14 fun v1 =>
qZ h v1 fun v2 =>
qW c (.fn 53 [] []) [v2] h fun v3 h4 =>
some (v3, h4)
theorem S16_eq (c : CV) (a0 : AV) (h : AH) : qg Tryz.prog NN P16 c 16 [a0] h = S16 c a0 h := by kernel_rfl
def W16 : WF := w_1 S16
theorem W16_ok : WOk Tryz.prog 16 W16 := jY (pl := P16) fun _ _ _ => by rw [S16_eq]
def P17 : Pl := (.n none .z (.n none .z (.n none (.n none .z (.n none (.n (some [17, 16, 15, 3]) .z .z) .z)) .z)))
def S17 (c : CV) (a0 : AV) (h : AH) : R :=
qC a0 fun v0 =>
qJ v0 0 fun v1 =>
qZ h v1 fun v2 =>
qr v2 fun v3 =>
yJ h 9 [(.str [])] v3 v3 fun v4 h5 =>
qC a0 fun v6 =>
qJ v6 0 fun v7 =>
qZ h5 v7 fun v8 =>
qr v8 fun v9 =>
jd (σ := AV × AV × AV × AV × Unit) NN (fun i13 s10 h11 d12 =>
qq .lss s10.1 s10.2.1 fun v14 =>
qj v14 (
jK s10.2.2.1 s10.1 1 fun v15 =>
qZ h11 v15 fun v16 =>
qW c (.fn 54 [] []) [v16] h11 fun v17 h18 =>
jK s10.2.2.2.1 s10.1 1 fun v19 =>
qv h18 v19 v17 1 fun h20 =>
qq .add s10.1 (iI 1) fun v21 =>
i13 (v21, s10.2.1, s10.2.2.1, s10.2.2.2.1, ()) h20 d12) (
qW c (.fn 55 [] []) [s10.2.2.2.1, (.str [32])] h11 fun v22 h23 =>
qP d12 h23 fun h24 =>
some (v22, h24))) ((iI 0), v9, v8, v4, ()) h5 []
theorem S17_eq (c : CV) (a0 : AV) (h : AH) : qg Tryz.prog NN P17 c 17 [a0] h = S17 c a0 h := by kernel_rfl
def W17 : WF := w_1 S17
theorem W17_ok : WOk Tryz.prog 17 W17 := jY (pl := P17) fun _ _ _ => by rw [S17_eq]
def P21 : Pl := .z
def S21 (_ : CV) (a0 : AV) (h : AH) : R :=
qC a0 fun v0 =>
qJ v0 4 fun v1 =>
qZ h v1 fun v2 =>
some (v2, h)
theorem S21_eq (c : CV) (a0 : AV) (h : AH) : qg Tryz.prog NN P21 c 21 [a0] h = S21 c a0 h := by kernel_rfl
def W21 : WF := w_1 S21
theorem W21_ok : WOk Tryz.prog 21 W21 := jY (pl := P21) fun _ _ _ => by rw [S21_eq]
def P22 : Pl := (.n none .z (.n none .z (.n none .z (.n none (.n none .z (.n none (.n (some [8, 7, 2, 1]) (.n none (.n none (.r [[23, 21, 8, 7, 2, 1]]) .z) .z) .z) .z)) (.n none .z (.n none (.n none .z (.n (some [7]) (.n (some [10, 9, 7, 2]) (.n none (.n none (.r [[42, 40, 10, 9, 7, 2]]) .z) (.n none (.n none (.n none .z (.n none .z (.n none .z (.n (some [11, 10, 9, 7, 2]) .z .z)))) .z) .z)) .z) .z)) .z))))))
def S22 (c : CV) (a0 a1 a2 : AV) (h : AH) : R :=
qW c (.fn 56 [] []) [a0, (iI 32), (iI 80)] h fun v0 h1 =>
yJ h1 26 [(uU 0)] v0 v0 fun v2 h3 =>
jK v2 (iI 5) 1 fun v4 =>
qv h3 v4 (uU 14) 1 fun h5 =>
jd (σ := AV × AV × AV × AV × Unit) NN (fun i9 s6 h7 d8 =>
qr s6.2.2.2.1 fun v10 =>
qq .lss s6.1 v10 fun v11 =>
qw (α := AV × AV × AV × AV × AV × AV × Unit → AH → R) (fun s12 h13 =>
qn s12.2.1 s12.1 (.bool false) fun v15 =>
qj v15 (
qq .add (iI 6) s12.2.2.1 fun v16 =>
jK s12.2.2.2.2.2.1 s12.2.2.1 1 fun v17 =>
qZ h13 v17 fun v18 =>
qq .rem v18 (uU 90) fun v19 =>
jK s12.2.2.2.1 v16 1 fun v20 =>
qv h13 v20 v19 1 fun h21 =>
qq .add s12.2.2.1 (iI 1) fun v22 =>
i9 (v22, s12.2.2.2.1, s12.2.2.2.2.1, s12.2.2.2.2.2.1, ()) h21 d8) (
qw (α := AV × Unit → AH → List Nat → R) (fun s23 h24 d25 =>
qP d25 h24 fun h27 =>
some (s23.1, h27)) fun j26 =>
jd (σ := AV × AV × AV × AV × Unit) NN (fun i31 s28 h29 d30 =>
qr s28.2.2.2.1 fun v32 =>
qq .lss s28.1 v32 fun v33 =>
qw (α := AV × AV × AV × AV × AV × AV × Unit → AH → R) (fun s34 h35 =>
qn s34.2.1 s34.1 (.bool false) fun v37 =>
qj v37 (
jK s34.2.2.2.2.2.1 s34.2.2.1 1 fun v38 =>
qZ h35 v38 fun v39 =>
qq .rem v39 (.int .u8 (.ofNat 3)) fun v40 =>
jE .i64 v40 fun v41 =>
qq .add v41 (iI 1) fun v42 =>
qq .add s34.2.2.2.1 (iI 1) fun v43 =>
jE .u64 v42 fun v44 =>
xg .shl (iI 1) v44 fun v45 =>
qq .add v43 v45 fun v46 =>
qr s34.2.2.2.2.1 fun v47 =>
qq .gtr v46 v47 fun v48 =>
qj v48 (
j26 (s34.2.2.2.2.1, ()) h35 d30) (
jE .u64 v42 fun v49 =>
jK s34.2.2.2.2.1 s34.2.2.2.1 1 fun v50 =>
qv h35 v50 v49 1 fun h51 =>
qw (α := AV × AV × AV × AV × AV × Unit → AH → List Nat → R) (fun s52 h53 d54 =>
qq .add s52.2.2.1 (iI 1) fun v56 =>
jE .u64 s52.1 fun v57 =>
xg .shl (iI 1) v57 fun v58 =>
qq .add v56 v58 fun v59 =>
jE .u64 v59 fun v60 =>
jK s52.2.2.2.1 (iI 5) 1 fun v61 =>
qv h53 v61 v60 1 fun h62 =>
qq .add s52.2.1 (iI 1) fun v63 =>
i31 (v63, v59, s52.2.2.2.1, s52.2.2.2.2.1, ()) h62 d54) fun j55 =>
jK s34.2.2.2.2.2.1 s34.2.2.1 1 fun v64 =>
qZ h51 v64 fun v65 =>
qq .and v65 (.int .u8 (.ofNat 16)) fun v66 =>
qq .gtr v66 (.int .u8 (.ofNat 0)) fun v67 =>
qj v67 (
qq .add v42 (iI 8) fun v68 =>
jE .u64 v68 fun v69 =>
jK s34.2.2.2.2.1 s34.2.2.2.1 1 fun v70 =>
qv h51 v70 v69 1 fun h71 =>
j55 (v42, s34.2.2.1, s34.2.2.2.1, s34.2.2.2.2.1, s34.2.2.2.2.2.1, ()) h71 d30) (
jK s34.2.2.2.2.2.1 s34.2.2.1 1 fun v72 =>
qZ h51 v72 fun v73 =>
qq .and v73 (.int .u8 (.ofNat 32)) fun v74 =>
qq .gtr v74 (.int .u8 (.ofNat 0)) fun v75 =>
qj v75 (
qq .add s34.2.2.2.1 (iI 1) fun v76 =>
qq .add (iI 1) v42 fun v77 =>
qq .sub v77 (iI 1) fun v78 =>
jK s34.2.2.2.2.1 v78 1 fun v79 =>
qZ h51 v79 fun v80 =>
jK s34.2.2.2.2.1 v76 1 fun v81 =>
qv h51 v81 v80 1 fun h82 =>
qq .add (iI 1) v42 fun v83 =>
qq .sub v83 (iI 1) fun v84 =>
qq .add s34.2.2.2.1 (iI 1) fun v85 =>
jE .u64 v85 fun v86 =>
jK s34.2.2.2.2.1 v84 1 fun v87 =>
qv h82 v87 v86 1 fun h88 =>
j55 (v42, s34.2.2.1, s34.2.2.2.1, s34.2.2.2.2.1, s34.2.2.2.2.2.1, ()) h88 d30) (
j55 (v42, s34.2.2.1, s34.2.2.2.1, s34.2.2.2.2.1, s34.2.2.2.2.2.1, ()) h51 d30)))) (
j26 (s34.2.2.2.2.1, ()) h35 d30)) fun j36 =>
qe v33 true (
qq .lss s28.1 (iI 8) fun v89 =>
j36 (v89, v33, s28.1, s28.2.1, s28.2.2.1, s28.2.2.2.1, ()) h29) (
j36 (.undef, v33, s28.1, s28.2.1, s28.2.2.1, s28.2.2.2.1, ()) h29)) ((iI 0), (iI 14), s12.2.2.2.1, s12.2.2.2.2.1, ()) h13 d8)) fun j14 =>
qe v11 true (
qq .lss s6.1 (iI 8) fun v90 =>
j14 (v90, v11, s6.1, s6.2.1, s6.2.2.1, s6.2.2.2.1, ()) h7) (
j14 (.undef, v11, s6.1, s6.2.1, s6.2.2.1, s6.2.2.2.1, ()) h7)) ((iI 0), v2, a2, a1, ()) h5 []
theorem S22_eq (c : CV) (a0 a1 a2 : AV) (h : AH) : qg Tryz.prog NN P22 c 22 [a0, a1, a2] h = S22 c a0 a1 a2 h := by kernel_rfl
def W22 : WF := w_3 S22
theorem W22_ok : WOk Tryz.prog 22 W22 := jf (pl := P22) fun _ _ _ _ _ => by rw [S22_eq]
def P23 : Pl := (.n none .z (.n none .z (.n none .z (.n none (.n none .z (.n (some [8, 7, 6]) (.n (some [9, 8, 7, 6, 2, 1, 0]) (.n none .z (.n none (.n none (.n none .z (.n none .z (.n none .z (.n none .z (.n (some [9, 8, 7, 6, 2, 1, 0]) (.n none (.r [[46, 44, 12, 11, 10, 9, 8, 7, 6, 2, 1, 0]]) (.n none .z (.n none (.r [[60, 58, 12, 11, 10, 9, 8, 7, 6, 2, 1, 0], [64, 62, 12, 11, 10, 9, 8, 7, 6, 2, 1, 0]]) (.n none .z (.n none (.r [[78, 76, 12, 11, 10, 9, 8, 7, 6, 2, 1, 0], [82, 80, 12, 11, 10, 9, 8, 7, 6, 2, 1, 0]]) (.n none .z (.n none (.r [[95, 93, 12, 11, 10, 9, 8, 7, 6, 2, 1, 0], [103, 97, 12, 11, 10, 9, 8, 7, 6, 2, 1, 0]]) (.n none .z (.n none (.r [[114, 112, 12, 11, 10, 9, 8, 7, 6, 2, 1, 0], [118, 116, 12, 11, 10, 9, 8, 7, 6, 2, 1, 0], [122, 120, 12, 10, 9, 8, 7, 6, 2, 1, 0]]) (.n none .z (.n none (.r [[140, 138, 12, 10, 9, 8, 7, 6, 2, 1, 0]]) (.n none .z (.n none (.r [[158, 156, 12, 10, 9, 8, 7, 6, 2, 1, 0]]) (.n none .z (.n none (.r [[176, 174, 12, 10, 9, 8, 7, 6, 2, 1, 0]]) (.n none (.r [[9, 8, 7, 6, 2, 1, 0]]) (.n none (.r [[195, 193, 10, 9, 8, 7, 6, 2, 1, 0]]) (.n none (.r [[9, 8, 7, 6, 2, 1, 0]]) .z)))))))))))))))))) .z))))) .z) .z)) .z) .z)) (.n none (.n none (.n (some [8, 7, 6]) .z .z) .z) (.n (some [7, 6]) .z .z))))))
def S23 (c : CV) (a0 a1 a2 : AV) (h : AH) : R :=
q9 h 31 (.agg [.nils]) fun v0 h1 =>
qw (α := AV × AV × AV × Unit → AH → List Nat → R) (fun s2 h3 d4 =>
jd (σ := AV × AV × AV × Unit) NN (fun i9 s6 h7 d8 =>
qr s6.1 fun v10 =>
qq .gtr v10 (iI 0) fun v11 =>
qj v11 (
qW c (.fn 57 [] []) [s6.2.1, s6.1] h7 fun v12 h13 =>
qB v12 0 fun v14 =>
qB v12 1 fun v15 =>
i9 (v15, v14, s6.2.2.1, ()) h13 d8) (
qw (α := AV × AV × Unit → AH → List Nat → R) (fun s16 h17 d18 =>
qm [.nils] [(0, 1, s16.1)] fun v20 =>
qv h17 s16.2.1 v20 1 fun h21 =>
qP d18 h21 fun h22 =>
qT h22 s16.2.1 1 fun v23 =>
some (v23, h22)) fun j19 =>
qr s6.2.1 fun v24 =>
qq .eql v24 (iI 0) fun v25 =>
qj v25 (
qm [(iI 0), (iI 0), (iI 0), (iI 0), (uU 0)] [(0, 1, (iI 1)), (1, 1, (iI 0)), (4, 1, (uU 1))] fun v26 =>
q8 h7 28 [(iI 0), (iI 0), (iI 0), (iI 0), (uU 0)] 1 [(0, 5, v26)] fun v27 h28 =>
jX h28 28 5 s6.2.1 v27 fun v29 h30 =>
j19 (v29, s6.2.2.1, ()) h30 d8) (
j19 (s6.2.1, s6.2.2.1, ()) h7 d8))) (s2.1, s2.2.1, s2.2.2.1, ()) h3 d4) fun j5 =>
jd (σ := AV × AV × AV × AV × AV × AV × AV × Unit) NN (fun i34 s31 h32 d33 =>
qr s31.2.2.2.2.2.2.1 fun v35 =>
qq .lss s31.1 v35 fun v36 =>
qj v36 (
jK s31.2.2.2.2.2.2.1 s31.1 5 fun v37 =>
qT h32 v37 5 fun v38 =>
q9 h32 115 (.agg [(iI 0), (iI 0), (iI 0), (iI 0), (uU 0)]) fun v39 h40 =>
qv h40 v39 v38 5 fun h41 =>
qr s31.2.1 fun v42 =>
qr s31.2.2.1 fun v43 =>
qq .mul (iI 2) v42 fun v44 =>
qq .add v43 v44 fun v45 =>
qq .add v45 (iI 5) fun v46 =>
qq .gtr v46 s31.2.2.2.2.2.1 fun v47 =>
qj v47 (
j5 (s31.2.1, s31.2.2.1, s31.2.2.2.1, ()) h41 d33) (
qJ v39 0 fun v48 =>
qZ h41 v48 fun v49 =>
qW c (.fn 56 [] []) [v49, (iI 0), (iI 40)] h41 fun v50 h51 =>
qw (α := AV × AV × AV × AV × AV × AV × AV × Unit → AH → List Nat → R) (fun s52 h53 d54 =>
qq .add s52.1 (iI 1) fun v56 =>
i34 (v56, s52.2.1, s52.2.2.1, s52.2.2.2.1, s52.2.2.2.2.1, s52.2.2.2.2.2.1, s52.2.2.2.2.2.2.1, ()) h53 d54) fun j55 =>
qq .eql v50 (iI 20) fun v57 =>
qw (α := AV × AV × AV × AV × AV × AV × AV × AV × AV × AV × AV × AV × Unit → AH → R) (fun s58 h59 =>
qn s58.2.1 s58.1 (.bool false) fun v61 =>
qj v61 (
qm [(iI 0), (iI 0), (iI 0), (iI 0), (uU 0)] [(0, 1, (iI 14))] fun v62 =>
q8 h59 28 [(iI 0), (iI 0), (iI 0), (iI 0), (uU 0)] 1 [(0, 5, v62)] fun v63 h64 =>
jX h64 28 5 s58.2.2.2.2.2.2.2.1 v63 fun v65 h66 =>
q8 h66 3 [(iI 0)] 1 [(0, 1, (iI 14))] fun v67 h68 =>
jX h68 3 1 s58.2.2.2.2.2.2.1 v67 fun v69 h70 =>
j55 (s58.2.2.2.2.2.1, v69, v65, s58.2.2.2.2.2.2.2.2.1, s58.2.2.2.2.2.2.2.2.2.1, s58.2.2.2.2.2.2.2.2.2.2.1, s58.2.2.2.2.2.2.2.2.2.2.2.1, ()) h70 d33) (
qq .eql s58.2.2.1 (iI 21) fun v71 =>
qw (α := AV × AV × AV × AV × AV × AV × AV × AV × AV × AV × AV × AV × Unit → AH → R) (fun s72 h73 =>
qn s72.2.1 (.bool true) s72.1 fun v75 =>
qw (α := AV × AV × AV × AV × AV × AV × AV × AV × AV × AV × AV × AV × Unit → AH → R) (fun s76 h77 =>
qn s76.2.1 s76.1 (.bool false) fun v79 =>
qj v79 (
qm [(iI 0), (iI 0), (iI 0), (iI 0), (uU 0)] [(0, 1, (iI 17))] fun v80 =>
q8 h77 28 [(iI 0), (iI 0), (iI 0), (iI 0), (uU 0)] 1 [(0, 5, v80)] fun v81 h82 =>
jX h82 28 5 s76.2.2.2.2.2.2.2.1 v81 fun v83 h84 =>
q8 h84 3 [(iI 0)] 1 [(0, 1, (iI 17))] fun v85 h86 =>
jX h86 3 1 s76.2.2.2.2.2.2.1 v85 fun v87 h88 =>
j55 (s76.2.2.2.2.2.1, v87, v83, s76.2.2.2.2.2.2.2.2.1, s76.2.2.2.2.2.2.2.2.2.1, s76.2.2.2.2.2.2.2.2.2.2.1, s76.2.2.2.2.2.2.2.2.2.2.2.1, ()) h88 d33) (
qq .eql s76.2.2.1 (iI 23) fun v89 =>
qw (α := AV × AV × AV × AV × AV × AV × AV × AV × AV × AV × AV × AV × Unit → AH → R) (fun s90 h91 =>
qn s90.2.1 (.bool true) s90.1 fun v93 =>
qw (α := AV × AV × AV × AV × AV × AV × AV × AV × AV × AV × AV × AV × Unit → AH → R) (fun s94 h95 =>
qn s94.2.1 s94.1 (.bool false) fun v97 =>
qj v97 (
qW c (.fn 57 [] []) [s94.2.2.2.2.2.2.2.1, s94.2.2.2.2.2.2.1] h95 fun v98 h99 =>
qB v98 0 fun v100 =>
qB v98 1 fun v101 =>
j55 (s94.2.2.2.2.2.1, v101, v100, s94.2.2.2.2.2.2.2.2.1, s94.2.2.2.2.2.2.2.2.2.1, s94.2.2.2.2.2.2.2.2.2.2.1, s94.2.2.2.2.2.2.2.2.2.2.2.1, ()) h99 d33) (
qq .eql s94.2.2.1 (iI 25) fun v102 =>
qw (α := AV × AV × AV × AV × AV × AV × AV × AV × AV × AV × AV × AV × Unit → AH → R) (fun s103 h104 =>
qn s103.2.1 s103.1 (.bool false) fun v106 =>
qw (α := AV × AV × AV × AV × AV × AV × AV × AV × AV × AV × AV × AV × Unit → AH → R) (fun s107 h108 =>
qn s107.2.1 s107.1 (.bool false) fun v110 =>
qj v110 (
qm [(iI 0), (iI 0), (iI 0), (iI 0), (uU 0)] [(0, 1, (iI 16))] fun v111 =>
q8 h108 28 [(iI 0), (iI 0), (iI 0), (iI 0), (uU 0)] 1 [(0, 5, v111)] fun v112 h113 =>
jX h113 28 5 s107.2.2.2.2.2.2.2.1 v112 fun v114 h115 =>
j55 (s107.2.2.2.2.2.1, s107.2.2.2.2.2.2.1, v114, s107.2.2.2.2.2.2.2.2.1, s107.2.2.2.2.2.2.2.2.2.1, s107.2.2.2.2.2.2.2.2.2.2.1, s107.2.2.2.2.2.2.2.2.2.2.2.1, ()) h115 d33) (
qq .eql s107.2.2.1 (iI 26) fun v116 =>
qw (α := AV × AV × AV × AV × AV × AV × AV × AV × AV × AV × AV × AV × Unit → AH → R) (fun s117 h118 =>
qn s117.2.1 (.bool true) s117.1 fun v120 =>
qw (α := AV × AV × AV × AV × AV × AV × AV × AV × AV × AV × AV × AV × Unit → AH → R) (fun s121 h122 =>
qn s121.2.1 s121.1 (.bool false) fun v124 =>
qw (α := AV × AV × AV × AV × AV × AV × AV × AV × AV × AV × AV × Unit → AH → R) (fun s125 h126 =>
qn s125.2.1 s125.1 (.bool false) fun v128 =>
qj v128 (
qJ s125.2.2.2.1 1 fun v129 =>
qZ h126 v129 fun v130 =>
qW c (.fn 58 [] []) [v130] h126 fun v131 h132 =>
qr s125.2.2.2.2.2.2.1 fun v133 =>
qq .add v133 (iI 2) fun v134 =>
qm [(iI 0), (iI 0), (iI 0), (iI 0), (uU 0)] [(0, 1, (iI 13)), (1, 1, v131), (3, 1, v134)] fun v135 =>
qm [(iI 0), (iI 0), (iI 0), (iI 0), (uU 0)] [(0, 1, (iI 20))] fun v136 =>
q8 h132 28 [(iI 0), (iI 0), (iI 0), (iI 0), (uU 0)] 2 [(0, 5, v135), (5, 5, v136)] fun v137 h138 =>
jX h138 28 5 s125.2.2.2.2.2.2.1 v137 fun v139 h140 =>
j55 (s125.2.2.2.2.1, s125.2.2.2.2.2.1, v139, s125.2.2.2.2.2.2.2.1, s125.2.2.2.2.2.2.2.2.1, s125.2.2.2.2.2.2.2.2.2.1, s125.2.2.2.2.2.2.2.2.2.2.1, ()) h140 d33) (
qq .eql s125.2.2.1 (iI 28) fun v141 =>
qw (α := AV × AV × AV × AV × AV × AV × AV × AV × AV × AV × AV × Unit → AH → R) (fun s142 h143 =>
qn s142.2.1 s142.1 (.bool false) fun v145 =>
qj v145 (
qJ s142.2.2.2.1 1 fun v146 =>
qZ h143 v146 fun v147 =>
qW c (.fn 58 [] []) [v147] h143 fun v148 h149 =>
qr s142.2.2.2.2.2.2.1 fun v150 =>
qq .add v150 (iI 2) fun v151 =>
qm [(iI 0), (iI 0), (iI 0), (iI 0), (uU 0)] [(0, 1, (iI 13)), (1, 1, v148), (3, 1, v151)] fun v152 =>
qm [(iI 0), (iI 0), (iI 0), (iI 0), (uU 0)] [(0, 1, (iI 20))] fun v153 =>
q8 h149 28 [(iI 0), (iI 0), (iI 0), (iI 0), (uU 0)] 2 [(0, 5, v152), (5, 5, v153)] fun v154 h155 =>
jX h155 28 5 s142.2.2.2.2.2.2.1 v154 fun v156 h157 =>
j55 (s142.2.2.2.2.1, s142.2.2.2.2.2.1, v156, s142.2.2.2.2.2.2.2.1, s142.2.2.2.2.2.2.2.2.1, s142.2.2.2.2.2.2.2.2.2.1, s142.2.2.2.2.2.2.2.2.2.2.1, ()) h157 d33) (
qq .eql s142.2.2.1 (iI 29) fun v158 =>
qw (α := AV × AV × AV × AV × AV × AV × AV × AV × AV × AV × AV × Unit → AH → R) (fun s159 h160 =>
qn s159.2.1 s159.1 (.bool false) fun v162 =>
qj v162 (
qJ s159.2.2.2.1 1 fun v163 =>
qZ h160 v163 fun v164 =>
qW c (.fn 58 [] []) [v164] h160 fun v165 h166 =>
qr s159.2.2.2.2.2.2.1 fun v167 =>
qq .add v167 (iI 2) fun v168 =>
qm [(iI 0), (iI 0), (iI 0), (iI 0), (uU 0)] [(0, 1, (iI 13)), (1, 1, v165), (3, 1, v168)] fun v169 =>
qm [(iI 0), (iI 0), (iI 0), (iI 0), (uU 0)] [(0, 1, (iI 22))] fun v170 =>
q8 h166 28 [(iI 0), (iI 0), (iI 0), (iI 0), (uU 0)] 2 [(0, 5, v169), (5, 5, v170)] fun v171 h172 =>
jX h172 28 5 s159.2.2.2.2.2.2.1 v171 fun v173 h174 =>
j55 (s159.2.2.2.2.1, s159.2.2.2.2.2.1, v173, s159.2.2.2.2.2.2.2.1, s159.2.2.2.2.2.2.2.2.1, s159.2.2.2.2.2.2.2.2.2.1, s159.2.2.2.2.2.2.2.2.2.2.1, ()) h174 d33) (
qq .eql s159.2.2.1 (iI 30) fun v175 =>
qw (α := AV × AV × AV × AV × AV × AV × AV × AV × AV × AV × AV × Unit → AH → R) (fun s176 h177 =>
qn s176.2.1 (.bool true) s176.1 fun v179 =>
qj v179 (
qw (α := AV × AV × AV × AV × AV × AV × AV × Unit → AH → R) (fun s180 h181 =>
j55 (s180.1, s180.2.1, s180.2.2.1, s180.2.2.2.1, s180.2.2.2.2.1, s180.2.2.2.2.2.1, s180.2.2.2.2.2.2.1, ()) h181 d33) fun j182 =>
qJ s176.2.2.2.1 2 fun v183 =>
qZ h177 v183 fun v184 =>
qW c (.fn 58 [] []) [v184] h177 fun v185 h186 =>
qr s176.2.2.2.2.2.2.1 fun v187 =>
qq .add v187 (iI 2) fun v188 =>
qm [(iI 0), (iI 0), (iI 0), (iI 0), (uU 0)] [(0, 1, (iI 13)), (1, 1, v185), (3, 1, v188)] fun v189 =>
qT h186 s176.2.2.2.1 5 fun v190 =>
qW c (.fn 59 [] []) [v190] h186 fun v191 h192 =>
q8 h192 28 [(iI 0), (iI 0), (iI 0), (iI 0), (uU 0)] 2 [(0, 5, v189), (5, 5, v191)] fun v193 h194 =>
jX h194 28 5 s176.2.2.2.2.2.2.1 v193 fun v195 h196 =>
zQ s176.2.2.2.1 (some 5) v190 h177 h186 h177.nx <|
j182 (s176.2.2.2.2.1, s176.2.2.2.2.2.1, v195, s176.2.2.2.2.2.2.2.1, s176.2.2.2.2.2.2.2.2.1, s176.2.2.2.2.2.2.2.2.2.1, s176.2.2.2.2.2.2.2.2.2.2.1, ()) h196) (
qq .eql s176.2.2.1 (iI 32) fun v197 =>
qw (α := AV × AV × AV × AV × AV × AV × AV × AV × AV × AV × Unit → AH → R) (fun s198 h199 =>
qn s198.2.1 s198.1 (.bool false) fun v201 =>
qj v201 (
qw (α := AV × AV × AV × AV × AV × AV × AV × Unit → AH → R) (fun s202 h203 =>
j55 (s202.1, s202.2.1, s202.2.2.1, s202.2.2.2.1, s202.2.2.2.2.1, s202.2.2.2.2.2.1, s202.2.2.2.2.2.2.1, ()) h203 d33) fun j204 =>
qT h199 s198.2.2.1 5 fun v205 =>
qW c (.fn 59 [] []) [v205] h199 fun v206 h207 =>
qJ s198.2.2.1 2 fun v208 =>
qZ h207 v208 fun v209 =>
qW c (.fn 58 [] []) [v209] h207 fun v210 h211 =>
qr s198.2.2.2.2.2.1 fun v212 =>
qm [(iI 0), (iI 0), (iI 0), (iI 0), (uU 0)] [(0, 1, (iI 13)), (1, 1, v210), (3, 1, v212)] fun v213 =>
q8 h211 28 [(iI 0), (iI 0), (iI 0), (iI 0), (uU 0)] 2 [(0, 5, v206), (5, 5, v213)] fun v214 h215 =>
jX h215 28 5 s198.2.2.2.2.2.1 v214 fun v216 h217 =>
zQ v208 none v209 h199 h207 h199.nx <|
j204 (s198.2.2.2.1, s198.2.2.2.2.1, v216, s198.2.2.2.2.2.2.1, s198.2.2.2.2.2.2.2.1, s198.2.2.2.2.2.2.2.2.1, s198.2.2.2.2.2.2.2.2.2.1, ()) h217) (
qT h199 s198.2.2.1 5 fun v218 =>
qW c (.fn 59 [] []) [v218] h199 fun v219 h220 =>
q8 h220 28 [(iI 0), (iI 0), (iI 0), (iI 0), (uU 0)] 1 [(0, 5, v219)] fun v221 h222 =>
jX h222 28 5 s198.2.2.2.2.2.1 v221 fun v223 h224 =>
j55 (s198.2.2.2.1, s198.2.2.2.2.1, v223, s198.2.2.2.2.2.2.1, s198.2.2.2.2.2.2.2.1, s198.2.2.2.2.2.2.2.2.1, s198.2.2.2.2.2.2.2.2.2.1, ()) h224 d33)) fun j200 =>
qe v197 true (
pUn .not s176.2.2.2.2.2.2.2.2.1 fun v225 =>
j200 (v225, v197, s176.2.2.2.1, s176.2.2.2.2.1, s176.2.2.2.2.2.1, s176.2.2.2.2.2.2.1, s176.2.2.2.2.2.2.2.1, s176.2.2.2.2.2.2.2.2.1, s176.2.2.2.2.2.2.2.2.2.1, s176.2.2.2.2.2.2.2.2.2.2.1, ()) h177) (
j200 (.undef, v197, s176.2.2.2.1, s176.2.2.2.2.1, s176.2.2.2.2.2.1, s176.2.2.2.2.2.2.1, s176.2.2.2.2.2.2.2.1, s176.2.2.2.2.2.2.2.2.1, s176.2.2.2.2.2.2.2.2.2.1, s176.2.2.2.2.2.2.2.2.2.2.1, ()) h177))) fun j178 =>
qe v175 false (
qq .eql s159.2.2.1 (iI 31) fun v226 =>
j178 (v226, v175, s159.2.2.1, s159.2.2.2.1, s159.2.2.2.2.1, s159.2.2.2.2.2.1, s159.2.2.2.2.2.2.1, s159.2.2.2.2.2.2.2.1, s159.2.2.2.2.2.2.2.2.1, s159.2.2.2.2.2.2.2.2.2.1, s159.2.2.2.2.2.2.2.2.2.2.1, ()) h160) (
j178 (.undef, v175, s159.2.2.1, s159.2.2.2.1, s159.2.2.2.2.1, s159.2.2.2.2.2.1, s159.2.2.2.2.2.2.1, s159.2.2.2.2.2.2.2.1, s159.2.2.2.2.2.2.2.2.1, s159.2.2.2.2.2.2.2.2.2.1, s159.2.2.2.2.2.2.2.2.2.2.1, ()) h160))) fun j161 =>
qe v158 true (
pUn .not s142.2.2.2.2.2.2.2.2.1 fun v227 =>
j161 (v227, v158, s142.2.2.1, s142.2.2.2.1, s142.2.2.2.2.1, s142.2.2.2.2.2.1, s142.2.2.2.2.2.2.1, s142.2.2.2.2.2.2.2.1, s142.2.2.2.2.2.2.2.2.1, s142.2.2.2.2.2.2.2.2.2.1, s142.2.2.2.2.2.2.2.2.2.2.1, ()) h143) (
j161 (.undef, v158, s142.2.2.1, s142.2.2.2.1, s142.2.2.2.2.1, s142.2.2.2.2.2.1, s142.2.2.2.2.2.2.1, s142.2.2.2.2.2.2.2.1, s142.2.2.2.2.2.2.2.2.1, s142.2.2.2.2.2.2.2.2.2.1, s142.2.2.2.2.2.2.2.2.2.2.1, ()) h143))) fun j144 =>
qe v141 true (
pUn .not s125.2.2.2.2.2.2.2.2.1 fun v228 =>
j144 (v228, v141, s125.2.2.1, s125.2.2.2.1, s125.2.2.2.2.1, s125.2.2.2.2.2.1, s125.2.2.2.2.2.2.1, s125.2.2.2.2.2.2.2.1, s125.2.2.2.2.2.2.2.2.1, s125.2.2.2.2.2.2.2.2.2.1, s125.2.2.2.2.2.2.2.2.2.2.1, ()) h126) (
j144 (.undef, v141, s125.2.2.1, s125.2.2.2.1, s125.2.2.2.2.1, s125.2.2.2.2.2.1, s125.2.2.2.2.2.2.1, s125.2.2.2.2.2.2.2.1, s125.2.2.2.2.2.2.2.2.1, s125.2.2.2.2.2.2.2.2.2.1, s125.2.2.2.2.2.2.2.2.2.2.1, ()) h126))) fun j127 =>
qe v124 true (
qq .gtr s121.2.2.2.1 (iI 0) fun v229 =>
j127 (v229, v124, s121.2.2.1, s121.2.2.2.2.1, s121.2.2.2.2.2.1, s121.2.2.2.2.2.2.1, s121.2.2.2.2.2.2.2.1, s121.2.2.2.2.2.2.2.2.1, s121.2.2.2.2.2.2.2.2.2.1, s121.2.2.2.2.2.2.2.2.2.2.1, s121.2.2.2.2.2.2.2.2.2.2.2.1, ()) h122) (
j127 (.undef, v124, s121.2.2.1, s121.2.2.2.2.1, s121.2.2.2.2.2.1, s121.2.2.2.2.2.2.1, s121.2.2.2.2.2.2.2.1, s121.2.2.2.2.2.2.2.2.1, s121.2.2.2.2.2.2.2.2.2.1, s121.2.2.2.2.2.2.2.2.2.2.1, s121.2.2.2.2.2.2.2.2.2.2.2.1, ()) h122)) fun j123 =>
qe v120 true (
pUn .not s117.2.2.2.2.2.2.2.2.2.1 fun v230 =>
j123 (v230, v120, s117.2.2.1, s117.2.2.2.1, s117.2.2.2.2.1, s117.2.2.2.2.2.1, s117.2.2.2.2.2.2.1, s117.2.2.2.2.2.2.2.1, s117.2.2.2.2.2.2.2.2.1, s117.2.2.2.2.2.2.2.2.2.1, s117.2.2.2.2.2.2.2.2.2.2.1, s117.2.2.2.2.2.2.2.2.2.2.2.1, ()) h118) (
j123 (.undef, v120, s117.2.2.1, s117.2.2.2.1, s117.2.2.2.2.1, s117.2.2.2.2.2.1, s117.2.2.2.2.2.2.1, s117.2.2.2.2.2.2.2.1, s117.2.2.2.2.2.2.2.2.1, s117.2.2.2.2.2.2.2.2.2.1, s117.2.2.2.2.2.2.2.2.2.2.1, s117.2.2.2.2.2.2.2.2.2.2.2.1, ()) h118)) fun j119 =>
qe v116 false (
qq .eql s107.2.2.1 (iI 27) fun v231 =>
j119 (v231, v116, s107.2.2.1, s107.2.2.2.1, s107.2.2.2.2.1, s107.2.2.2.2.2.1, s107.2.2.2.2.2.2.1, s107.2.2.2.2.2.2.2.1, s107.2.2.2.2.2.2.2.2.1, s107.2.2.2.2.2.2.2.2.2.1, s107.2.2.2.2.2.2.2.2.2.2.1, s107.2.2.2.2.2.2.2.2.2.2.2.1, ()) h108) (
j119 (.undef, v116, s107.2.2.1, s107.2.2.2.1, s107.2.2.2.2.1, s107.2.2.2.2.2.1, s107.2.2.2.2.2.2.1, s107.2.2.2.2.2.2.2.1, s107.2.2.2.2.2.2.2.2.1, s107.2.2.2.2.2.2.2.2.2.1, s107.2.2.2.2.2.2.2.2.2.2.1, s107.2.2.2.2.2.2.2.2.2.2.2.1, ()) h108))) fun j109 =>
qe v106 true (
qq .sub s103.2.2.2.1 (iI 1) fun v232 =>
jK s103.2.2.2.2.2.2.1 v232 1 fun v233 =>
qZ h104 v233 fun v234 =>
qq .eql v234 (iI 14) fun v235 =>
j109 (v235, v106, s103.2.2.1, s103.2.2.2.1, s103.2.2.2.2.1, s103.2.2.2.2.2.1, s103.2.2.2.2.2.2.1, s103.2.2.2.2.2.2.2.1, s103.2.2.2.2.2.2.2.2.1, s103.2.2.2.2.2.2.2.2.2.1, s103.2.2.2.2.2.2.2.2.2.2.1, s103.2.2.2.2.2.2.2.2.2.2.2.1, ()) h104) (
j109 (.undef, v106, s103.2.2.1, s103.2.2.2.1, s103.2.2.2.2.1, s103.2.2.2.2.2.1, s103.2.2.2.2.2.2.1, s103.2.2.2.2.2.2.2.1, s103.2.2.2.2.2.2.2.2.1, s103.2.2.2.2.2.2.2.2.2.1, s103.2.2.2.2.2.2.2.2.2.2.1, s103.2.2.2.2.2.2.2.2.2.2.2.1, ()) h104)) fun j105 =>
qe v102 true (
qq .gtr s94.2.2.2.1 (iI 0) fun v236 =>
j105 (v236, v102, s94.2.2.1, s94.2.2.2.1, s94.2.2.2.2.1, s94.2.2.2.2.2.1, s94.2.2.2.2.2.2.1, s94.2.2.2.2.2.2.2.1, s94.2.2.2.2.2.2.2.2.1, s94.2.2.2.2.2.2.2.2.2.1, s94.2.2.2.2.2.2.2.2.2.2.1, s94.2.2.2.2.2.2.2.2.2.2.2.1, ()) h95) (
j105 (.undef, v102, s94.2.2.1, s94.2.2.2.1, s94.2.2.2.2.1, s94.2.2.2.2.2.1, s94.2.2.2.2.2.2.1, s94.2.2.2.2.2.2.2.1, s94.2.2.2.2.2.2.2.2.1, s94.2.2.2.2.2.2.2.2.2.1, s94.2.2.2.2.2.2.2.2.2.2.1, s94.2.2.2.2.2.2.2.2.2.2.2.1, ()) h95))) fun j96 =>
qe v93 true (
qq .gtr s90.2.2.2.1 (iI 0) fun v237 =>
j96 (v237, v93, s90.2.2.1, s90.2.2.2.1, s90.2.2.2.2.1, s90.2.2.2.2.2.1, s90.2.2.2.2.2.2.1, s90.2.2.2.2.2.2.2.1, s90.2.2.2.2.2.2.2.2.1, s90.2.2.2.2.2.2.2.2.2.1, s90.2.2.2.2.2.2.2.2.2.2.1, s90.2.2.2.2.2.2.2.2.2.2.2.1, ()) h91) (
j96 (.undef, v93, s90.2.2.1, s90.2.2.2.1, s90.2.2.2.2.1, s90.2.2.2.2.2.1, s90.2.2.2.2.2.2.1, s90.2.2.2.2.2.2.2.1, s90.2.2.2.2.2.2.2.2.1, s90.2.2.2.2.2.2.2.2.2.1, s90.2.2.2.2.2.2.2.2.2.2.1, s90.2.2.2.2.2.2.2.2.2.2.2.1, ()) h91)) fun j92 =>
qe v89 false (
qq .eql s76.2.2.1 (iI 24) fun v238 =>
j92 (v238, v89, s76.2.2.1, s76.2.2.2.1, s76.2.2.2.2.1, s76.2.2.2.2.2.1, s76.2.2.2.2.2.2.1, s76.2.2.2.2.2.2.2.1, s76.2.2.2.2.2.2.2.2.1, s76.2.2.2.2.2.2.2.2.2.1, s76.2.2.2.2.2.2.2.2.2.2.1, s76.2.2.2.2.2.2.2.2.2.2.2.1, ()) h77) (
j92 (.undef, v89, s76.2.2.1, s76.2.2.2.1, s76.2.2.2.2.1, s76.2.2.2.2.2.1, s76.2.2.2.2.2.2.1, s76.2.2.2.2.2.2.2.1, s76.2.2.2.2.2.2.2.2.1, s76.2.2.2.2.2.2.2.2.2.1, s76.2.2.2.2.2.2.2.2.2.2.1, s76.2.2.2.2.2.2.2.2.2.2.2.1, ()) h77))) fun j78 =>
qe v75 true (
qq .lss s72.2.2.2.1 (iI 5) fun v239 =>
j78 (v239, v75, s72.2.2.1, s72.2.2.2.1, s72.2.2.2.2.1, s72.2.2.2.2.2.1, s72.2.2.2.2.2.2.1, s72.2.2.2.2.2.2.2.1, s72.2.2.2.2.2.2.2.2.1, s72.2.2.2.2.2.2.2.2.2.1, s72.2.2.2.2.2.2.2.2.2.2.1, s72.2.2.2.2.2.2.2.2.2.2.2.1, ()) h73) (
j78 (.undef, v75, s72.2.2.1, s72.2.2.2.1, s72.2.2.2.2.1, s72.2.2.2.2.2.1, s72.2.2.2.2.2.2.1, s72.2.2.2.2.2.2.2.1, s72.2.2.2.2.2.2.2.2.1, s72.2.2.2.2.2.2.2.2.2.1, s72.2.2.2.2.2.2.2.2.2.2.1, s72.2.2.2.2.2.2.2.2.2.2.2.1, ()) h73)) fun j74 =>
qe v71 false (
qq .eql s58.2.2.1 (iI 22) fun v240 =>
j74 (v240, v71, s58.2.2.1, s58.2.2.2.1, s58.2.2.2.2.1, s58.2.2.2.2.2.1, s58.2.2.2.2.2.2.1, s58.2.2.2.2.2.2.2.1, s58.2.2.2.2.2.2.2.2.1, s58.2.2.2.2.2.2.2.2.2.1, s58.2.2.2.2.2.2.2.2.2.2.1, s58.2.2.2.2.2.2.2.2.2.2.2.1, ()) h59) (
j74 (.undef, v71, s58.2.2.1, s58.2.2.2.1, s58.2.2.2.2.1, s58.2.2.2.2.2.1, s58.2.2.2.2.2.2.1, s58.2.2.2.2.2.2.2.1, s58.2.2.2.2.2.2.2.2.1, s58.2.2.2.2.2.2.2.2.2.1, s58.2.2.2.2.2.2.2.2.2.2.1, s58.2.2.2.2.2.2.2.2.2.2.2.1, ()) h59))) fun j60 =>
qe v57 true (
qq .lss v42 (iI 5) fun v241 =>
j60 (v241, v57, v50, v42, v39, s31.1, s31.2.1, s31.2.2.1, s31.2.2.2.1, s31.2.2.2.2.1, s31.2.2.2.2.2.1, s31.2.2.2.2.2.2.1, ()) h51) (
j60 (.undef, v57, v50, v42, v39, s31.1, s31.2.1, s31.2.2.1, s31.2.2.2.1, s31.2.2.2.2.1, s31.2.2.2.2.2.1, s31.2.2.2.2.2.2.1, ()) h51))) (
j5 (s31.2.1, s31.2.2.1, s31.2.2.2.1, ()) h32 d33)) ((iI 0), .nils, .nils, v0, a2, a1, a0, ()) h1 []
theorem S23_eq (c : CV) (a0 a1 a2 : AV) (h : AH) : qg Tryz.prog NN P23 c 23 [a0, a1, a2] h = S23 c a0 a1 a2 h := by kernel_rfl
def W23 : WF := w_3 S23
theorem W23_ok : WOk Tryz.prog 23 W23 := jf (pl := P23) fun _ _ _ _ _ => by rw [S23_eq]
def P31 : Pl := .z
def S31 (c : CV) (a0 : AV) (h : AH) : R :=
qC a0 fun v0 =>
qJ v0 2 fun v1 =>
qZ h v1 fun v2 =>
qW c (.fn 69 [] []) [v2] h fun v3 h4 =>
some (v3, h4)
theorem S31_eq (c : CV) (a0 : AV) (h : AH) : qg Tryz.prog NN P31 c 31 [a0] h = S31 c a0 h := by kernel_rfl
def W31 : WF := w_1 S31
theorem W31_ok : WOk Tryz.prog 31 W31 := jY (pl := P31) fun _ _ _ => by rw [S31_eq]
def P33 : Pl := .z
def S33 (c : CV) (a0 : AV) (h : AH) : R :=
qC a0 fun v0 =>
qJ v0 2 fun v1 =>
qZ h v1 fun v2 =>
qW c (.fn 70 [] []) [v2] h fun v3 h4 =>
some (v3, h4)
theorem S33_eq (c : CV) (a0 : AV) (h : AH) : qg Tryz.prog NN P33 c 33 [a0] h = S33 c a0 h := by kernel_rfl
def W33 : WF := w_1 S33
theorem W33_ok : WOk Tryz.prog 33 W33 := jY (pl := P33) fun _ _ _ => by rw [S33_eq]
def P35 : Pl := (.n none .z (.n none .z (.n none (.n none .z (.n none (.n (some [4, 3, 2, 0]) (.n none .z (.n none (.n none (.n none .z (.n none .z (.n none (.n (some [6, 5, 4, 3, 2, 0]) (.n none .z (.n none (.n none (.n none .z (.n (some [7, 6, 5, 4, 3, 2, 0]) (.n none (.r [[41, 38, 7, 6, 5, 4, 3, 2, 0]]) .z) .z)) .z) .z)) .z) .z))) .z) .z)) .z) .z)) .z)))
def S35 (_ : CV) (a0 : AV) (h : AH) : R :=
q9 h 31 (.agg [.nils]) fun v0 h1 =>
q9 h1 31 (.agg [.nils]) fun v2 h3 =>
jd (σ := AV × AV × AV × AV × Unit) NN (fun i7 s4 h5 d6 =>
qr s4.2.2.2.1 fun v8 =>
qq .lss s4.1 v8 fun v9 =>
qj v9 (
qJ s4.2.1 0 fun v10 =>
qZ h5 v10 fun v11 =>
qr v11 fun v12 =>
jd (σ := AV × AV × AV × AV × AV × AV × Unit) NN (fun i16 s13 h14 d15 =>
jK s13.2.2.2.2.2.1 s13.2.2.1 1 fun v17 =>
qJ v17 0 fun v18 =>
qZ h14 v18 fun v19 =>
qr v19 fun v20 =>
qq .lss s13.1 v20 fun v21 =>
qj v21 (
jK s13.2.2.2.2.2.1 s13.2.2.1 1 fun v22 =>
qJ v22 0 fun v23 =>
qZ h14 v23 fun v24 =>
jK v24 s13.1 5 fun v25 =>
qT h14 v25 5 fun v26 =>
q9 h14 28 (.agg [(iI 0), (iI 0), (iI 0), (iI 0), (uU 0)]) fun v27 h28 =>
qv h28 v27 v26 5 fun h29 =>
qw (α := AV × AV × AV × AV × AV × AV × AV × Unit → AH → List Nat → R) (fun s30 h31 d32 =>
qJ s30.2.2.2.2.1 0 fun v34 =>
qZ h31 v34 fun v35 =>
qT h31 s30.1 5 fun v36 =>
q8 h31 28 [(iI 0), (iI 0), (iI 0), (iI 0), (uU 0)] 1 [(0, 5, v36)] fun v37 h38 =>
jX h38 28 5 v35 v37 fun v39 h40 =>
qJ s30.2.2.2.2.1 0 fun v41 =>
qv h40 v41 v39 1 fun h42 =>
qq .add s30.2.1 (iI 1) fun v43 =>
i16 (v43, s30.2.2.1, s30.2.2.2.1, s30.2.2.2.2.1, s30.2.2.2.2.2.1, s30.2.2.2.2.2.2.1, ()) h42 d32) fun j33 =>
qJ v27 0 fun v44 =>
qZ h29 v44 fun v45 =>
qq .eql v45 (iI 12) fun v46 =>
qw (α := AV × AV × AV × AV × AV × AV × AV × AV × AV × Unit → AH → R) (fun s47 h48 =>
qn s47.2.1 (.bool true) s47.1 fun v50 =>
qj v50 (
qJ s47.2.2.1 3 fun v51 =>
qZ h48 v51 fun v52 =>
qq .add v52 s47.2.2.2.2.1 fun v53 =>
qJ s47.2.2.1 3 fun v54 =>
qv h48 v54 v53 1 fun h55 =>
j33 (s47.2.2.1, s47.2.2.2.1, s47.2.2.2.2.1, s47.2.2.2.2.2.1, s47.2.2.2.2.2.2.1, s47.2.2.2.2.2.2.2.1, s47.2.2.2.2.2.2.2.2.1, ()) h55 d15) (
j33 (s47.2.2.1, s47.2.2.2.1, s47.2.2.2.2.1, s47.2.2.2.2.2.1, s47.2.2.2.2.2.2.1, s47.2.2.2.2.2.2.2.1, s47.2.2.2.2.2.2.2.2.1, ()) h48 d15)) fun j49 =>
qe v46 false (
qJ v27 0 fun v56 =>
qZ h29 v56 fun v57 =>
qq .eql v57 (iI 13) fun v58 =>
j49 (v58, v46, v27, s13.1, s13.2.1, s13.2.2.1, s13.2.2.2.1, s13.2.2.2.2.1, s13.2.2.2.2.2.1, ()) h29) (
j49 (.undef, v46, v27, s13.1, s13.2.1, s13.2.2.1, s13.2.2.2.1, s13.2.2.2.2.1, s13.2.2.2.2.2.1, ()) h29)) (
qq .add s13.2.2.1 (iI 1) fun v59 =>
i7 (v59, s13.2.2.2.1, s13.2.2.2.2.1, s13.2.2.2.2.2.1, ()) h14 d15)) ((iI 0), v12, s4.1, s4.2.1, s4.2.2.1, s4.2.2.2.1, ()) h5 d6) (
qT h5 s4.2.1 1 fun v60 =>
qv h5 s4.2.2.1 v60 1 fun h61 =>
qP d6 h61 fun h62 =>
qT h62 s4.2.2.1 1 fun v63 =>
some (v63, h62))) ((iI 0), v2, v0, a0, ()) h3 []
theorem S35_eq (c : CV) (a0 : AV) (h : AH) : qg Tryz.prog NN P35 c 35 [a0] h = S35 c a0 h := by kernel_rfl
def W35 : WF := w_1 S35
theorem W35_ok : WOk Tryz.prog 35 W35 := jY (pl := P35) fun _ _ _ => by rw [S35_eq]
def P36 : Pl := .z
def S36 (_ : CV) (a0 : AV) (h : AH) : R :=
q9 h 31 (.agg [.nils]) fun v0 h1 =>
qm [(iI 0), (iI 0), (iI 0), (iI 0), (uU 0)] [(0, 1, a0)] fun v2 =>
q8 h1 28 [(iI 0), (iI 0), (iI 0), (iI 0), (uU 0)] 1 [(0, 5, v2)] fun v3 h4 =>
qm [.nils] [(0, 1, v3)] fun v5 =>
qv h4 v0 v5 1 fun h6 =>
qT h6 v0 1 fun v7 =>
some (v7, h6)
theorem S36_eq (c : CV) (a0 : AV) (h : AH) : qg Tryz.prog NN P36 c 36 [a0] h = S36 c a0 h := by kernel_rfl
def W36 : WF := w_1 S36
theorem W36_ok : WOk Tryz.prog 36 W36 := jY (pl := P36) fun _ _ _ => by rw [S36_eq]
def P37 : Pl := (.n none .z (.n none (.n none (.r [[16, 12, 1]]) .z) (.n none .z (.n none (.n none .z (.n none (.n (some [21, 20, 19, 4, 1]) .z .z) .z)) (.n none .z (.n none (.r [[3, 2]]) .z))))))
def S37 (c : CV) (a0 : AV) (h : AH) : R :=
q9 h 31 a0 fun v0 h1 =>
qJ v0 0 fun v2 =>
qZ h1 v2 fun v3 =>
qr v3 fun v4 =>
qq .eql v4 (iI 0) fun v5 =>
qw (α := AV × AV × AV × Unit → AH → R) (fun s6 h7 =>
qn s6.2.1 (.bool true) s6.1 fun v9 =>
qj v9 (
some ((.tup [(iI 0), (iI 4)]), h7)) (
qJ s6.2.2.1 0 fun v10 =>
qZ h7 v10 fun v11 =>
qr v11 fun v12 =>
jd (σ := AV × AV × AV × AV × AV × Unit) NN (fun i16 s13 h14 d15 =>
qq .lss s13.1 s13.2.1 fun v17 =>
qj v17 (
jK s13.2.2.1 s13.1 5 fun v18 =>
qT h14 v18 5 fun v19 =>
q9 h14 28 (.agg [(iI 0), (iI 0), (iI 0), (iI 0), (uU 0)]) fun v20 h21 =>
qv h21 v20 v19 5 fun h22 =>
qT h22 s13.2.2.2.2.1 1 fun v23 =>
qT h22 v20 5 fun v24 =>
qW c (.fn 72 [] []) [v23, s13.2.2.2.1, v24] h22 fun v25 h26 =>
qq .neq v25 (iI 0) fun v27 =>
qj v27 (
qP d15 h26 fun h28 =>
some ((.tup [s13.1, v25]), h28)) (
qJ v20 0 fun v29 =>
qZ h26 v29 fun v30 =>
qW c (.fn 73 [] []) [s13.2.2.2.1, s13.1, v30] h26 fun v31 h32 =>
qq .add s13.1 (iI 1) fun v33 =>
i16 (v33, s13.2.1, s13.2.2.1, v31, s13.2.2.2.2.1, ()) h32 d15)) (
qr s13.2.2.2.1 fun v34 =>
qq .gtr v34 (iI 0) fun v35 =>
qj v35 (
qW c (.fn 74 [] []) [s13.2.2.2.1] h14 fun v36 h37 =>
qP d15 h37 fun h38 =>
some ((.tup [v36, (iI 12)]), h38)) (
qw (α := AV × AV × Unit → AH → R) (fun s39 h40 =>
qP d15 h40 fun h42 =>
some ((.tup [s39.2.1, s39.1]), h42)) fun j41 =>
qT h14 s13.2.2.2.2.1 1 fun v43 =>
qT h14 s13.2.2.2.2.1 1 fun v44 =>
qW c (.fn 76 [] []) [v44] h14 fun v45 h46 =>
qW c (.fn 75 [] []) [v43, v45] h46 fun v47 h48 =>
qB v47 0 fun v49 =>
qB v47 1 fun v50 =>
zQ s13.2.2.2.2.1 (some 1) v43 h14 h46 h14.nx <|
j41 (v50, v49, ()) h48))) ((iI 0), v12, v11, .nils, s6.2.2.1, ()) h7 [])) fun j8 =>
qe v5 false (
qJ v0 0 fun v51 =>
qZ h1 v51 fun v52 =>
qr v52 fun v53 =>
qq .gtr v53 (iI 40) fun v54 =>
j8 (v54, v5, v0, ()) h1) (
j8 (.undef, v5, v0, ()) h1)
theorem S37_eq (c : CV) (a0 : AV) (h : AH) : qg Tryz.prog NN P37 c 37 [a0] h = S37 c a0 h := by kernel_rfl
def W37 : WF := w_1 S37
theorem W37_ok : WOk Tryz.prog 37 W37 := jY (pl := P37) fun _ _ _ => by rw [S37_eq]
def P40 : Pl := .z
def S40 (_ : CV) (a0 : AV) (h : AH) : R :=
pMM false [a0, (iI 256)] fun v0 =>
pMM true [(iI 32), v0] fun v1 =>
yJ h 26 [(uU 0)] v1 v1 fun v2 h3 =>
jK v2 (iI 5) 1 fun v4 =>
qv h3 v4 (uU 14) 1 fun h5 =>
some (v2, h5)
theorem S40_eq (c : CV) (a0 : AV) (h : AH) : qg Tryz.prog NN P40 c 40 [a0] h = S40 c a0 h := by kernel_rfl
def W40 : WF := w_1 S40
theorem W40_ok : WOk Tryz.prog 40 W40 := jY (pl := P40) fun _ _ _ => by rw [S40_eq]
def P41 : Pl := (.n none .z (.n none .z (.n none .z (.n none .z (.n (some [11, 8, 0]) .z .z)))))
def S41 (c : CV) (a0 a1 a2 a3 : AV) (h : AH) : R :=
q9 h 31 a1 fun v0 h1 =>
q9 h1 85 (.agg [(iI 0), (iI 0), (.str []), .nils, .nils, .nils]) fun v2 h3 =>
qW c (.fn 77 [] []) [a0, a3] h3 fun v4 h5 =>
qT h5 v0 1 fun v6 =>
qW c (.fn 12 [] []) [v6, v4, a2] h5 fun v7 h8 =>
qW c (.fn 13 [] []) [v7] h8 fun v9 h10 =>
qW c (.fn 21 [] []) [v7] h10 fun v11 h12 =>
qm [(iI 0), (iI 0), (.str []), .nils, .nils, .nils] [(0, 1, v9), (1, 1, v11)] fun v13 =>
q9 h12 85 (.agg [(iI 0), (iI 0), (.str []), .nils, .nils, .nils]) fun v14 h15 =>
qv h15 v14 v13 6 fun h16 =>
qw (α := AV × AV × AV × Unit → AH → List Nat → R) (fun s17 h18 d19 =>
qJ s17.1 3 fun v21 =>
qZ h18 v21 fun v22 =>
qW c (.fn 43 [] []) [s17.2.2.1, v22] h18 fun v23 h24 =>
qJ s17.1 5 fun v25 =>
qv h24 v25 v23 1 fun h26 =>
qT h26 s17.1 6 fun v27 =>
qv h26 s17.2.1 v27 6 fun h28 =>
qP d19 h28 fun h29 =>
qT h29 s17.2.1 6 fun v30 =>
some (v30, h29)) fun j20 =>
qJ v14 0 fun v31 =>
qZ h16 v31 fun v32 =>
qq .eql v32 (iI 2) fun v33 =>
qj v33 (
qW c (.fn 16 [] []) [v7] h16 fun v34 h35 =>
qW c (.fn 17 [] []) [v34] h35 fun v36 h37 =>
qW c (.fn 31 [] []) [v4] h37 fun v38 h39 =>
qW c (.fn 33 [] []) [v4] h39 fun v40 h41 =>
qJ v14 2 fun v42 =>
qv h41 v42 v36 1 fun h43 =>
qJ v14 3 fun v44 =>
qv h43 v44 v38 1 fun h45 =>
qJ v14 4 fun v46 =>
qv h45 v46 v40 1 fun h47 =>
j20 (v14, v2, a0, ()) h47 []) (
j20 (v14, v2, a0, ()) h16 [])
theorem S41_eq (c : CV) (a0 a1 a2 a3 : AV) (h : AH) : qg Tryz.prog NN P41 c 41 [a0, a1, a2, a3] h = S41 c a0 a1 a2 a3 h := by kernel_rfl
def W41 : WF := w_4 S41
theorem W41_ok : WOk Tryz.prog 41 W41 := yg (pl := P41) fun _ _ _ _ _ _ => by rw [S41_eq]
def P42 : Pl := (.n none .z (.n none .z (.n none (.n none .z (.n none (.n (some [16, 15, 14, 7, 6, 0]) .z .z) .z)) .z)))
def S42 (c : CV) (a0 a1 a2 : AV) (h : AH) : R :=
q9 h 85 (.agg [(iI 0), (iI 0), (.str []), .nils, .nils, .nils]) fun v0 h1 =>
qW c (.fn 77 [] []) [a0, a2] h1 fun v2 h3 =>
qr a1 fun v4 =>
jd (σ := AV × AV × AV × AV × AV × AV × Unit) NN (fun i8 s5 h6 d7 =>
qq .lss s5.1 s5.2.1 fun v9 =>
qj v9 (
jK s5.2.2.1 s5.1 1 fun v10 =>
qZ h6 v10 fun v11 =>
qW c (.fn 78 [] []) [s5.2.2.2.1, v11] h6 fun v12 h13 =>
qq .neq v12 (iI 0) fun v14 =>
qj v14 (
qW c (.fn 43 [] []) [s5.2.2.2.2.2.1, .nils] h13 fun v15 h16 =>
qm [(iI 0), (iI 0), (.str []), .nils, .nils, .nils] [(0, 1, (iI 4)), (1, 1, v12), (5, 1, v15)] fun v17 =>
qv h16 s5.2.2.2.2.1 v17 6 fun h18 =>
qP d7 h18 fun h19 =>
qT h19 s5.2.2.2.2.1 6 fun v20 =>
some (v20, h19)) (
qq .add s5.1 (iI 1) fun v21 =>
i8 (v21, s5.2.1, s5.2.2.1, s5.2.2.2.1, s5.2.2.2.2.1, s5.2.2.2.2.2.1, ()) h13 d7)) (
qW c (.fn 31 [] []) [s5.2.2.2.1] h6 fun v22 h23 =>
qW c (.fn 31 [] []) [s5.2.2.2.1] h23 fun v24 h25 =>
qW c (.fn 43 [] []) [s5.2.2.2.2.2.1, v24] h25 fun v26 h27 =>
qm [(iI 0), (iI 0), (.str []), .nils, .nils, .nils] [(0, 1, (iI 2)), (3, 1, v22), (5, 1, v26)] fun v28 =>
qv h27 s5.2.2.2.2.1 v28 6 fun h29 =>
qP d7 h29 fun h30 =>
qT h30 s5.2.2.2.2.1 6 fun v31 =>
some (v31, h30))) ((iI 0), v4, a1, v2, v0, a0, ()) h3 []
theorem S42_eq (c : CV) (a0 a1 a2 : AV) (h : AH) : qg Tryz.prog NN P42 c 42 [a0, a1, a2] h = S42 c a0 a1 a2 h := by kernel_rfl
def W42 : WF := w_3 S42
theorem W42_ok : WOk Tryz.prog 42 W42 := jf (pl := P42) fun _ _ _ _ _ => by rw [S42_eq]
def P43 : Pl := (.n none .z (.n none .z (.n none .z (.n none (.n none .z (.n none (.n (some [23, 22, 21, 5]) (.n none .z (.n none .z (.n none (.n (some [23, 22, 21, 5]) (.n none .z (.n none (.r [[35, 30, 23, 22, 21, 7, 5]]) .z)) .z) .z))) .z) .z)) .z))))
def S43 (_ : CV) (a0 a1 : AV) (h : AH) : R :=
qr a0 fun v0 =>
pMM false [v0, (iI 256)] fun v1 =>
pMM true [(iI 32), v1] fun v2 =>
yJ h 26 [(uU 0)] v2 v2 fun v3 h4 =>
ju h4 26 1 v3 (some (iI 1)) none fun v5 =>
qr a0 fun v6 =>
pMM false [(iI 1), v6] fun v7 =>
ju h4 26 1 a0 (some v7) none fun v8 =>
Q5 h4 1 v5 v8 fun _ h10 =>
qr a1 fun v11 =>
jd (σ := AV × AV × AV × AV × Unit) NN (fun i15 s12 h13 d14 =>
qq .lss s12.1 s12.2.1 fun v16 =>
qj v16 (
qw (α := AV × AV × AV × AV × Unit → AH → List Nat → R) (fun s17 h18 d19 =>
qq .add s17.1 (iI 1) fun v21 =>
i15 (v21, s17.2.1, s17.2.2.1, s17.2.2.2.1, ()) h18 d19) fun j20 =>
jK s12.2.2.1 s12.1 2 fun v22 =>
qT h13 v22 2 fun v23 =>
q9 h13 67 (.agg [(iI 0), (uU 0)]) fun v24 h25 =>
qv h25 v24 v23 2 fun h26 =>
qJ v24 0 fun v27 =>
qZ h26 v27 fun v28 =>
qq .geq v28 (iI 1) fun v29 =>
qw (α := AV × AV × AV × AV × AV × AV × AV × Unit → AH → R) (fun s30 h31 =>
qn s30.2.1 s30.1 (.bool false) fun v33 =>
qj v33 (
qJ s30.2.2.2.2.2.1 0 fun v34 =>
qZ h31 v34 fun v35 =>
qJ s30.2.2.2.2.2.1 1 fun v36 =>
qZ h31 v36 fun v37 =>
jK s30.2.2.2.2.2.2.1 v35 1 fun v38 =>
qv h31 v38 v37 1 fun h39 =>
j20 (s30.2.2.1, s30.2.2.2.1, s30.2.2.2.2.1, s30.2.2.2.2.2.2.1, ()) h39 d14) (
j20 (s30.2.2.1, s30.2.2.2.1, s30.2.2.2.2.1, s30.2.2.2.2.2.2.1, ()) h31 d14)) fun j32 =>
qe v29 true (
qJ v24 0 fun v40 =>
qZ h26 v40 fun v41 =>
qr s12.2.2.2.1 fun v42 =>
qq .lss v41 v42 fun v43 =>
j32 (v43, v29, s12.1, s12.2.1, s12.2.2.1, v24, s12.2.2.2.1, ()) h26) (
j32 (.undef, v29, s12.1, s12.2.1, s12.2.2.1, v24, s12.2.2.2.1, ()) h26)) (
qP d14 h13 fun h44 =>
some (s12.2.2.2.1, h44))) ((iI 0), v11, a1, v3, ()) h10 []
theorem S43_eq (c : CV) (a0 a1 : AV) (h : AH) : qg Tryz.prog NN P43 c 43 [a0, a1] h = S43 c a0 a1 h := by kernel_rfl
def W43 : WF := w_2 S43
theorem W43_ok : WOk Tryz.prog 43 W43 := jg (pl := P43) fun _ _ _ _ => by rw [S43_eq]
def P46 : Pl := (.n none .z (.n none .z (.n none (.n none .z (.n none (.n (some [5, 1, 0]) .z .z) .z)) .z)))
def S46 (_ : CV) (a0 a1 : AV) (h : AH) : R :=
qr a0 fun v0 =>
qr a1 fun v1 =>
qq .neq v0 v1 fun v2 =>
qj v2 (
some ((.bool false), h)) (
jd (σ := AV × AV × AV × Unit) NN (fun i6 s3 h4 d5 =>
qr s3.2.2.1 fun v7 =>
qq .lss s3.1 v7 fun v8 =>
qj v8 (
jK s3.2.2.1 s3.1 1 fun v9 =>
qZ h4 v9 fun v10 =>
jK s3.2.1 s3.1 1 fun v11 =>
qZ h4 v11 fun v12 =>
qq .neq v10 v12 fun v13 =>
qj v13 (
qP d5 h4 fun h14 =>
some ((.bool false), h14)) (
qq .add s3.1 (iI 1) fun v15 =>
i6 (v15, s3.2.1, s3.2.2.1, ()) h4 d5)) (
qP d5 h4 fun h16 =>
some ((.bool true), h16))) ((iI 0), a1, a0, ()) h [])
theorem S46_eq (c : CV) (a0 a1 : AV) (h : AH) : qg Tryz.prog NN P46 c 46 [a0, a1] h = S46 c a0 a1 h := by kernel_rfl
def W46 : WF := w_2 S46
theorem W46_ok : WOk Tryz.prog 46 W46 := jg (pl := P46) fun _ _ _ _ => by rw [S46_eq]
def P47 : Pl := .z
def S47 (c : CV) (a0 : AV) (h : AH) : R :=
pMM false [a0, (iI 96)] fun v0 =>
pMM true [(iI 0), v0] fun v1 =>
qW c (.fn 81 [] []) [] h fun v2 h3 =>
q8 h3 136 [.nilp] 1 [(0, 1, v2)] fun v4 h5 =>
qm [(iI 0), .nils] [(0, 1, v1), (1, 1, v4)] fun v6 =>
q9 h5 140 v6 fun v7 h8 =>
some (v7, h8)
theorem S47_eq (c : CV) (a0 : AV) (h : AH) : qg Tryz.prog NN P47 c 47 [a0] h = S47 c a0 h := by kernel_rfl
def W47 : WF := w_1 S47
theorem W47_ok : WOk Tryz.prog 47 W47 := jY (pl := P47) fun _ _ _ => by rw [S47_eq]
def P48 : Pl := (.n none .z (.n none .z (.n none .z (.n none .z (.n none (.n none .z (.n none (.n (some [27, 26, 6, 5, 1]) .z .z) .z)) (.n none (.n none .z (.n none (.n (some [37, 36, 35, 6, 5, 1]) (.n none .z (.n none .z (.n none (.n (some [37, 36, 35, 6, 5, 1]) .z .z) .z))) .z) .z)) (.n none (.n none .z (.n none (.n (some [57, 56, 55, 6, 5]) (.n none .z (.n none .z (.n none (.n (some [57, 56, 55, 6, 5]) .z .z) .z))) .z) .z)) .z)))))))
def S48 (c : CV) (a0 : AV) (h : AH) : R :=
q9 h 31 a0 fun v0 h1 =>
qT h1 v0 1 fun v2 =>
qW c (.fn 37 [] []) [v2] h1 fun v3 h4 =>
qB v3 0 fun _ =>
qB v3 1 fun v6 =>
qq .neq v6 (iI 0) fun v7 =>
qj v7 (
some (.nils, h4)) (
qT h4 v0 1 fun v8 =>
qW c (.fn 76 [] []) [v8] h4 fun v9 h10 =>
qJ v0 0 fun v11 =>
qZ h10 v11 fun v12 =>
qr v12 fun v13 =>
yJ h10 3 [(iI 0)] v13 v13 fun v14 h15 =>
qr v14 fun v16 =>
jd (σ := AV × AV × AV × AV × AV × Unit) NN (fun i20 s17 h18 d19 =>
qq .lss s17.1 s17.2.1 fun v21 =>
qj v21 (
jK s17.2.2.1 s17.1 1 fun v22 =>
qv h18 v22 (.int .i64 (.negSucc 0)) 1 fun h23 =>
qq .add s17.1 (iI 1) fun v24 =>
i20 (v24, s17.2.1, s17.2.2.1, s17.2.2.2.1, s17.2.2.2.2.1, ()) h23 d19) (
qJ s17.2.2.2.2.1 0 fun v25 =>
qZ h18 v25 fun v26 =>
qr v26 fun v27 =>
jd (σ := AV × AV × AV × AV × AV × AV × Unit) NN (fun i31 s28 h29 d30 =>
qq .lss s28.1 s28.2.1 fun v32 =>
qj v32 (
qw (α := AV × AV × AV × AV × AV × AV × Unit → AH → List Nat → R) (fun s33 h34 d35 =>
qq .add s33.1 (iI 1) fun v37 =>
i31 (v37, s33.2.1, s33.2.2.1, s33.2.2.2.1, s33.2.2.2.2.1, s33.2.2.2.2.2.1, ()) h34 d35) fun j36 =>
jK s28.2.2.1 s28.1 5 fun v38 =>
qT h29 v38 5 fun v39 =>
q9 h29 28 (.agg [(iI 0), (iI 0), (iI 0), (iI 0), (uU 0)]) fun v40 h41 =>
qv h41 v40 v39 5 fun h42 =>
qJ v40 0 fun v43 =>
qZ h42 v43 fun v44 =>
qW c (.fn 82 [] []) [v44] h42 fun v45 h46 =>
qq .gtr v45 (iI 0) fun v47 =>
qj v47 (
jK s28.2.2.2.2.1 s28.1 1 fun v48 =>
qZ h46 v48 fun v49 =>
jK s28.2.2.2.1 v49 1 fun v50 =>
qv h46 v50 s28.1 1 fun h51 =>
j36 (s28.1, s28.2.1, s28.2.2.1, s28.2.2.2.1, s28.2.2.2.2.1, s28.2.2.2.2.2.1, ()) h51 d30) (
j36 (s28.1, s28.2.1, s28.2.2.1, s28.2.2.2.1, s28.2.2.2.2.1, s28.2.2.2.2.2.1, ()) h46 d30)) (
qJ s28.2.2.2.2.2.1 0 fun v52 =>
qZ h29 v52 fun v53 =>
qr v53 fun v54 =>
jd (σ := AV × AV × AV × AV × AV × Unit) NN (fun i58 s55 h56 d57 =>
qq .lss s55.1 s55.2.1 fun v59 =>
qj v59 (
qw (α := AV × AV × AV × AV × AV × Unit → AH → List Nat → R) (fun s60 h61 d62 =>
qq .add s60.1 (iI 1) fun v64 =>
i58 (v64, s60.2.1, s60.2.2.1, s60.2.2.2.1, s60.2.2.2.2.1, ()) h61 d62) fun j63 =>
jK s55.2.2.1 s55.1 5 fun v65 =>
qT h56 v65 5 fun v66 =>
q9 h56 28 (.agg [(iI 0), (iI 0), (iI 0), (iI 0), (uU 0)]) fun v67 h68 =>
qv h68 v67 v66 5 fun h69 =>
qJ v67 0 fun v70 =>
qZ h69 v70 fun v71 =>
qq .eql v71 (iI 16) fun v72 =>
qj v72 (
jK s55.2.2.2.2.1 s55.1 1 fun v73 =>
qZ h69 v73 fun v74 =>
jK s55.2.2.2.1 v74 1 fun v75 =>
qZ h69 v75 fun v76 =>
jK s55.2.2.2.1 s55.1 1 fun v77 =>
qv h69 v77 v76 1 fun h78 =>
j63 (s55.1, s55.2.1, s55.2.2.1, s55.2.2.2.1, s55.2.2.2.2.1, ()) h78 d57) (
j63 (s55.1, s55.2.1, s55.2.2.1, s55.2.2.2.1, s55.2.2.2.2.1, ()) h69 d57)) (
qP d57 h56 fun h79 =>
some (s55.2.2.2.1, h79))) ((iI 0), v54, v53, s28.2.2.2.1, s28.2.2.2.2.1, ()) h29 d30)) ((iI 0), v27, v26, s17.2.2.1, s17.2.2.2.1, s17.2.2.2.2.1, ()) h18 d19)) ((iI 0), v16, v14, v9, v0, ()) h15 [])
theorem S48_eq (c : CV) (a0 : AV) (h : AH) : qg Tryz.prog NN P48 c 48 [a0] h = S48 c a0 h := by kernel_rfl
def W48 : WF := w_1 S48
theorem W48_ok : WOk Tryz.prog 48 W48 := jY (pl := P48) fun _ _ _ => by rw [S48_eq]
def P49 : Pl := .z
def S49 (_ : CV) (h : AH) : R :=
qm [.nils] [] fun v0 =>
q9 h 109 v0 fun v1 h2 =>
some (v1, h2)
theorem S49_eq (c : CV) (h : AH) : qg Tryz.prog NN P49 c 49 [] h = S49 c h := by kernel_rfl
def W49 : WF := w_0 S49
theorem W49_ok : WOk Tryz.prog 49 W49 := Yl (pl := P49) fun _ _ => by rw [S49_eq]
def P50 : Pl := .z
def S50 (_ : CV) (a0 a1 : AV) (h : AH) : R :=
qC a0 fun v0 =>
qJ v0 5 fun v1 =>
qv h v1 (iI 4) 1 fun h2 =>
qC a0 fun v3 =>
qJ v3 4 fun v4 =>
qv h2 v4 a1 1 fun h5 =>
some ((.tup []), h5)
theorem S50_eq (c : CV) (a0 a1 : AV) (h : AH) : qg Tryz.prog NN P50 c 50 [a0, a1] h = S50 c a0 a1 h := by kernel_rfl
def W50 : WF := w_2 S50
theorem W50_ok : WOk Tryz.prog 50 W50 := jg (pl := P50) fun _ _ _ _ => by rw [S50_eq]
def P51 : Pl := (.n none .z (.n none .z (.n none (.n none .z (.n (some []) (.n none .z (.n none .z (.n none .z (.n none .z (.n none .z (.n none .z (.n none .z (.n none .z (.n none .z (.n none .z (.n none .z (.n none .z (.n none .z (.n none .z (.n none .z (.n none .z (.n none .z (.n none .z (.n none .z (.n none .z (.n none .z (.n none .z (.n none .z (.n none .z (.n (some [120, 6, 5, 3, 0]) .z .z))))))))))))))))))))))))) .z)) .z)))
def S51 (c : CV) (a0 a1 : AV) (h : AH) : R :=
q9 h 28 a1 fun v0 h1 =>
qJ v0 1 fun v2 =>
qZ h1 v2 fun v3 =>
qq .rem v3 (iI 8) fun v4 =>
qC a0 fun v5 =>
qJ v5 6 fun v6 =>
yH v6 v4 8 1 fun v7 =>
qJ v0 2 fun v8 =>
qZ h1 v8 fun v9 =>
qq .rem v9 (iI 8) fun v10 =>
qC a0 fun v11 =>
qJ v11 6 fun v12 =>
yH v12 v10 8 1 fun v13 =>
qZ h1 v13 fun v14 =>
qJ v0 3 fun v15 =>
qZ h1 v15 fun v16 =>
qq .rem v16 (iI 8) fun v17 =>
qC a0 fun v18 =>
qJ v18 6 fun v19 =>
yH v19 v17 8 1 fun v20 =>
qZ h1 v20 fun v21 =>
qJ v0 0 fun v22 =>
qZ h1 v22 fun v23 =>
qw (α := Unit → AH → List Nat → R) (fun _ h25 d26 =>
qP d26 h25 fun h28 =>
some ((iI 0), h28)) fun j27 =>
qq .eql v23 (iI 1) fun v29 =>
qj v29 (
qJ v0 4 fun v30 =>
qZ h1 v30 fun v31 =>
qC v7 fun v32 =>
qv h1 v32 v31 1 fun h33 =>
j27 (()) h33 []) (
qq .eql v23 (iI 2) fun v34 =>
qj v34 (
qC v7 fun v35 =>
qv h1 v35 v14 1 fun h36 =>
j27 (()) h36 []) (
qq .eql v23 (iI 3) fun v37 =>
qj v37 (
qq .add v14 v21 fun v38 =>
qC v7 fun v39 =>
qv h1 v39 v38 1 fun h40 =>
j27 (()) h40 []) (
qq .eql v23 (iI 4) fun v41 =>
qj v41 (
qq .sub v14 v21 fun v42 =>
qC v7 fun v43 =>
qv h1 v43 v42 1 fun h44 =>
j27 (()) h44 []) (
qq .eql v23 (iI 5) fun v45 =>
qj v45 (
qq .mul v14 v21 fun v46 =>
qC v7 fun v47 =>
qv h1 v47 v46 1 fun h48 =>
j27 (()) h48 []) (
qq .eql v23 (iI 6) fun v49 =>
qj v49 (
qq .lss v14 v21 fun v50 =>
qW c (.fn 83 [] []) [v50] h1 fun v51 h52 =>
qC v7 fun v53 =>
qv h52 v53 v51 1 fun h54 =>
j27 (()) h54 []) (
qq .eql v23 (iI 7) fun v55 =>
qj v55 (
qq .eql v14 v21 fun v56 =>
qW c (.fn 83 [] []) [v56] h1 fun v57 h58 =>
qC v7 fun v59 =>
qv h58 v59 v57 1 fun h60 =>
j27 (()) h60 []) (
qq .eql v23 (iI 12) fun v61 =>
qj v61 (
qJ v0 3 fun v62 =>
qZ h1 v62 fun v63 =>
qC a0 fun v64 =>
qJ v64 16 fun v65 =>
qv h1 v65 v63 1 fun h66 =>
j27 (()) h66 []) (
qq .eql v23 (iI 13) fun v67 =>
qj v67 (
qC v7 fun v68 =>
qZ h1 v68 fun v69 =>
qq .eql v69 (uU 0) fun v70 =>
qj v70 (
qJ v0 3 fun v71 =>
qZ h1 v71 fun v72 =>
qC a0 fun v73 =>
qJ v73 16 fun v74 =>
qv h1 v74 v72 1 fun h75 =>
j27 (()) h75 []) (
j27 (()) h1 [])) (
qq .eql v23 (iI 21) fun v76 =>
qj v76 (
qC a0 fun v77 =>
qJ v77 14 fun v78 =>
qZ h1 v78 fun v79 =>
qC v7 fun v80 =>
qZ h1 v80 fun v81 =>
qW c (.fn 84 [] []) [v79, v81] h1 fun v82 h83 =>
pUn .not v82 fun v84 =>
qj v84 (
some ((iI 5), h83)) (
j27 (()) h83 [])) (
qq .eql v23 (iI 22) fun v85 =>
qj v85 (
some ((iI 13), h1)) (
qq .eql v23 (iI 23) fun v86 =>
qj v86 (
qT h1 v0 5 fun v87 =>
qW c (.fn 85 [] []) [a0, v87] h1 fun v88 h89 =>
some (v88, h89)) (
qw (α := AV × AV × AV × AV × AV × Unit → AH → List Nat → R) (fun s90 h91 d92 =>
qj s90.1 (
qT h91 s90.2.2.2.1 5 fun v94 =>
qW c (.fn 86 [] []) [s90.2.2.2.2.1, v94, s90.2.2.1, s90.2.1] h91 fun v95 h96 =>
qP d92 h96 fun h97 =>
some (v95, h97)) (
qT h91 s90.2.2.2.1 5 fun v98 =>
qW c (.fn 87 [] []) [s90.2.2.2.2.1, v98] h91 fun v99 h100 =>
qP d92 h100 fun h101 =>
some (v99, h101))) fun j93 =>
qq .eql v23 (iI 8) fun v102 =>
qj v102 (
j93 (v102, v14, v7, v0, a0, ()) h1 []) (
qq .eql v23 (iI 9) fun v103 =>
qj v103 (
j93 (v103, v14, v7, v0, a0, ()) h1 []) (
qq .eql v23 (iI 10) fun v104 =>
qj v104 (
j93 (v104, v14, v7, v0, a0, ()) h1 []) (
qq .eql v23 (iI 11) fun v105 =>
j93 (v105, v14, v7, v0, a0, ()) h1 [])))))))))))))))
theorem S51_eq (c : CV) (a0 a1 : AV) (h : AH) : qg Tryz.prog NN P51 c 51 [a0, a1] h = S51 c a0 a1 h := by kernel_rfl
def W51 : WF := w_2 S51
theorem W51_ok : WOk Tryz.prog 51 W51 := jg (pl := P51) fun _ _ _ _ => by rw [S51_eq]
def P52 : Pl := (.n none .z (.n none (.r [[14, 7]]) .z))
def S52 (_ : CV) (a0 a1 : AV) (h : AH) : R :=
qq .geq a1 (iI 1) fun v0 =>
qw (α := AV × AV × Unit → AH → R) (fun s1 h2 =>
qn s1.2.1 s1.1 (.bool false) fun v4 =>
some (v4, h2)) fun j3 =>
qe v0 true (
qC a0 fun v5 =>
qJ v5 0 fun v6 =>
qZ h v6 fun v7 =>
qr v7 fun v8 =>
qq .lss a1 v8 fun v9 =>
j3 (v9, v0, ()) h) (
j3 (.undef, v0, ()) h)
theorem S52_eq (c : CV) (a0 a1 : AV) (h : AH) : qg Tryz.prog NN P52 c 52 [a0, a1] h = S52 c a0 a1 h := by kernel_rfl
def W52 : WF := w_2 S52
theorem W52_ok : WOk Tryz.prog 52 W52 := jg (pl := P52) fun _ _ _ _ => by rw [S52_eq]
def P53 : Pl := .z
def S53 (c : CV) (a0 : AV) (h : AH) : R :=
qC a0 fun v0 =>
qJ v0 0 fun v1 =>
qZ h v1 fun v2 =>
qW c (.fn 88 [] []) [v2] h fun v3 h4 =>
qm [.nils] [(0, 1, v3)] fun v5 =>
q9 h4 109 v5 fun v6 h7 =>
some (v6, h7)
theorem S53_eq (c : CV) (a0 : AV) (h : AH) : qg Tryz.prog NN P53 c 53 [a0] h = S53 c a0 h := by kernel_rfl
def W53 : WF := w_1 S53
theorem W53_ok : WOk Tryz.prog 53 W53 := jY (pl := P53) fun _ _ _ => by rw [S53_eq]
def P54 : Pl := .z
def S54 (c : CV) (a0 : AV) (h : AH) : R :=
xk 26 (uU 0) a0 fun v0 =>
qB v0 1 fun v1 =>
qB v0 0 fun v2 =>
qj v1 (
qW c (.fn 89 [] []) [v2, (iI 10)] h fun v3 h4 =>
some (v3, h4)) (
xk 4 (.bool false) a0 fun v5 =>
qB v5 1 fun v6 =>
qB v5 0 fun v7 =>
qj v6 (
qj v7 (
some ((.str [121, 101, 115]), h)) (
some ((.str [110, 111]), h))) (
some ((.str [110, 111, 110, 101]), h)))
theorem S54_eq (c : CV) (a0 : AV) (h : AH) : qg Tryz.prog NN P54 c 54 [a0] h = S54 c a0 h := by kernel_rfl
def W54 : WF := w_1 S54
theorem W54_ok : WOk Tryz.prog 54 W54 := jY (pl := P54) fun _ _ _ => by rw [S54_eq]
def P56 : Pl := (.n none .z (.n none .z (.n (some [1, 0]) .z .z)))
def S56 (_ : CV) (a0 a1 a2 : AV) (h : AH) : R :=
qq .sub a2 a1 fun v0 =>
qq .add v0 (iI 1) fun v1 =>
qq .rem a0 v1 fun v2 =>
qw (α := AV × AV × Unit → AH → List Nat → R) (fun s3 h4 d5 =>
qq .add s3.1 s3.2.1 fun v7 =>
qP d5 h4 fun h8 =>
some (v7, h8)) fun j6 =>
qq .lss v2 (iI 0) fun v9 =>
qj v9 (
qq .add v2 a2 fun v10 =>
qq .sub v10 a1 fun v11 =>
qq .add v11 (iI 1) fun v12 =>
j6 (a1, v12, ()) h []) (
j6 (a1, v2, ()) h [])
theorem S56_eq (c : CV) (a0 a1 a2 : AV) (h : AH) : qg Tryz.prog NN P56 c 56 [a0, a1, a2] h = S56 c a0 a1 a2 h := by kernel_rfl
def W56 : WF := w_3 S56
theorem W56_ok : WOk Tryz.prog 56 W56 := jf (pl := P56) fun _ _ _ _ _ => by rw [S56_eq]
def P57 : Pl := (.n none .z (.n none .z (.n none (.n none .z (.n none (.n none .z (.n none (.n none (.r [[5, 4]]) .z) .z)) .z)) (.n none (.r [[5, 4]]) .z))))
def S57 (_ : CV) (a0 a1 : AV) (h : AH) : R :=
qr a1 fun v0 =>
qq .sub v0 (iI 1) fun v1 =>
jK a1 v1 1 fun v2 =>
qZ h v2 fun v3 =>
qq .eql v3 (iI 14) fun v4 =>
qj v4 (
qw (α := AV × AV × Unit → AH → R) (fun s5 h6 =>
some ((.tup [s5.2.1, s5.1]), h6)) fun j7 =>
qm [(iI 0), (iI 0), (iI 0), (iI 0), (uU 0)] [(0, 1, (iI 15))] fun v8 =>
q8 h 28 [(iI 0), (iI 0), (iI 0), (iI 0), (uU 0)] 1 [(0, 5, v8)] fun v9 h10 =>
jX h10 28 5 a0 v9 fun v11 h12 =>
ju h12 3 1 a1 none (some v1) fun v13 =>
zQ a1 (some 196609) v13 h10 h12 h.nx <|
j7 (v13, v11, ()) h12) (
qq .eql v3 (iI 17) fun v14 =>
qj v14 (
ju h 3 1 a1 none (some v1) fun v15 =>
jX h 3 1 .nils v15 fun v16 h17 =>
q8 h17 3 [(iI 0)] 1 [(0, 1, (iI 18))] fun v18 h19 =>
jX h19 3 1 v16 v18 fun v20 h21 =>
qm [(iI 0), (iI 0), (iI 0), (iI 0), (uU 0)] [(0, 1, (iI 18))] fun v22 =>
q8 h21 28 [(iI 0), (iI 0), (iI 0), (iI 0), (uU 0)] 1 [(0, 5, v22)] fun v23 h24 =>
jX h24 28 5 a0 v23 fun v25 h26 =>
some ((.tup [v25, v20]), h26)) (
qw (α := AV × AV × Unit → AH → R) (fun s27 h28 =>
some ((.tup [s27.2.1, s27.1]), h28)) fun j29 =>
qm [(iI 0), (iI 0), (iI 0), (iI 0), (uU 0)] [(0, 1, (iI 19))] fun v30 =>
q8 h 28 [(iI 0), (iI 0), (iI 0), (iI 0), (uU 0)] 1 [(0, 5, v30)] fun v31 h32 =>
jX h32 28 5 a0 v31 fun v33 h34 =>
ju h34 3 1 a1 none (some v1) fun v35 =>
zQ a1 (some 196609) v35 h32 h34 h.nx <|
j29 (v35, v33, ()) h34))
theorem S57_eq (c : CV) (a0 a1 : AV) (h : AH) : qg Tryz.prog NN P57 c 57 [a0, a1] h = S57 c a0 a1 h := by kernel_rfl
def W57 : WF := w_2 S57
theorem W57_ok : WOk Tryz.prog 57 W57 := jg (pl := P57) fun _ _ _ _ => by rw [S57_eq]
def P58 : Pl := .z
def S58 (c : CV) (a0 : AV) (h : AH) : R :=
qW c (.fn 56 [] []) [a0, (iI 0), (iI 6)] h fun v0 h1 =>
some (v0, h1)
theorem S58_eq (c : CV) (a0 : AV) (h : AH) : qg Tryz.prog NN P58 c 58 [a0] h = S58 c a0 h := by kernel_rfl
def W58 : WF := w_1 S58
theorem W58_ok : WOk Tryz.prog 58 W58 := jY (pl := P58) fun _ _ _ => by rw [S58_eq]
def P59 : Pl := (.n none .z (.n none (.r [[5, 4, 3, 2, 1]]) (.n none .z (.n none .z (.n none (.n none .z (.n none (.n (some [23, 22, 7, 6, 5, 4, 3, 2, 1]) .z (.n none .z (.n none .z (.n none .z (.n none .z (.n none .z (.n none .z (.n none .z (.n (some [54, 22, 7, 6, 4, 3, 2, 1]) .z (.n none .z (.n (some [62, 22, 7, 6, 4, 3, 2, 1]) .z (.n none .z (.n none .z (.n none .z (.n none .z (.n none .z (.n (some [86, 22, 7, 6, 4, 3, 2]) .z .z))))))))))))))))) .z)) .z)))))
def S59 (c : CV) (a0 : AV) (h : AH) : R :=
q9 h 115 a0 fun v0 h1 =>
q9 h1 28 (.agg [(iI 0), (iI 0), (iI 0), (iI 0), (uU 0)]) fun v2 h3 =>
qw (α := AV × AV × AV × AV × AV × Unit → AH → R) (fun s4 h5 =>
qJ s4.2.2.2.2.1 3 fun v7 =>
qZ h5 v7 fun v8 =>
qW c (.fn 56 [] []) [v8, (iI 6), (iI 15)] h5 fun v9 h10 =>
qJ s4.2.2.2.2.1 0 fun v11 =>
qZ h10 v11 fun v12 =>
qW c (.fn 56 [] []) [v12, (iI 0), (iI 19)] h10 fun v13 h14 =>
qw (α := AV × AV × AV × AV × AV × AV × AV × AV × AV × Unit → AH → List Nat → R) (fun s15 h16 d17 =>
qj s15.1 (
qJ s15.2.2.2.2.2.2.2.2.1 4 fun v19 =>
qZ h16 v19 fun v20 =>
qm [(iI 0), (iI 0), (iI 0), (iI 0), (uU 0)] [(0, 1, (iI 1)), (1, 1, s15.2.2.2.2.2.2.1), (4, 1, v20)] fun v21 =>
qv h16 s15.2.2.2.2.2.2.2.1 v21 5 fun h22 =>
qP d17 h22 fun h23 =>
qT h23 s15.2.2.2.2.2.2.2.1 5 fun v24 =>
some (v24, h23)) (
qq .eql s15.2.1 (iI 2) fun v25 =>
qj v25 (
qJ s15.2.2.2.2.2.2.2.2.1 4 fun v26 =>
qZ h16 v26 fun v27 =>
qq .rem v27 (uU 20) fun v28 =>
qm [(iI 0), (iI 0), (iI 0), (iI 0), (uU 0)] [(0, 1, (iI 1)), (1, 1, s15.2.2.2.2.2.2.1), (4, 1, v28)] fun v29 =>
qv h16 s15.2.2.2.2.2.2.2.1 v29 5 fun h30 =>
qP d17 h30 fun h31 =>
qT h31 s15.2.2.2.2.2.2.2.1 5 fun v32 =>
some (v32, h31)) (
qq .eql s15.2.1 (iI 3) fun v33 =>
qj v33 (
qm [(iI 0), (iI 0), (iI 0), (iI 0), (uU 0)] [(0, 1, (iI 2)), (1, 1, s15.2.2.2.2.2.2.1), (2, 1, s15.2.2.2.2.2.1)] fun v34 =>
qv h16 s15.2.2.2.2.2.2.2.1 v34 5 fun h35 =>
qP d17 h35 fun h36 =>
qT h36 s15.2.2.2.2.2.2.2.1 5 fun v37 =>
some (v37, h36)) (
qq .eql s15.2.1 (iI 4) fun v38 =>
qj v38 (
qJ s15.2.2.2.2.2.2.2.2.1 4 fun v39 =>
qZ h16 v39 fun v40 =>
qq .rem v40 (uU 64) fun v41 =>
jE .i64 v41 fun v42 =>
qW c (.fn 56 [] []) [v42, (iI 0), (iI 4)] h16 fun v43 h44 =>
qq .add (iI 3) v43 fun v45 =>
qm [(iI 0), (iI 0), (iI 0), (iI 0), (uU 0)] [(0, 1, v45), (1, 1, s15.2.2.2.2.2.2.1), (2, 1, s15.2.2.2.2.2.1), (3, 1, s15.2.2.2.2.1)] fun v46 =>
qv h44 s15.2.2.2.2.2.2.2.1 v46 5 fun h47 =>
qP d17 h47 fun h48 =>
qT h48 s15.2.2.2.2.2.2.2.1 5 fun v49 =>
some (v49, h48)) (
qw (α := AV × AV × AV × AV × AV × AV × AV × AV × Unit → AH → List Nat → R) (fun s50 h51 d52 =>
qj s50.1 (
qm [(iI 0), (iI 0), (iI 0), (iI 0), (uU 0)] [(0, 1, (iI 8)), (1, 1, s50.2.2.2.2.2.1), (2, 1, s50.2.2.2.1), (3, 1, s50.2.2.1)] fun v54 =>
qv h51 s50.2.2.2.2.2.2.1 v54 5 fun h55 =>
qP d52 h55 fun h56 =>
qT h56 s50.2.2.2.2.2.2.1 5 fun v57 =>
some (v57, h56)) (
qw (α := AV × AV × AV × AV × AV × AV × AV × AV × Unit → AH → List Nat → R) (fun s58 h59 d60 =>
qj s58.1 (
qm [(iI 0), (iI 0), (iI 0), (iI 0), (uU 0)] [(0, 1, (iI 9)), (1, 1, s58.2.2.2.1), (2, 1, s58.2.2.2.2.1), (3, 1, s58.2.2.1)] fun v62 =>
qv h59 s58.2.2.2.2.2.2.1 v62 5 fun h63 =>
qP d60 h63 fun h64 =>
qT h64 s58.2.2.2.2.2.2.1 5 fun v65 =>
some (v65, h64)) (
qq .eql s58.2.1 (iI 11) fun v66 =>
qj v66 (
qJ s58.2.2.2.2.2.2.2.1 3 fun v67 =>
qZ h59 v67 fun v68 =>
qW c (.fn 56 [] []) [v68, (iI 0), (iI 3)] h59 fun v69 h70 =>
qm [(iI 0), (iI 0), (iI 0), (iI 0), (uU 0)] [(0, 1, (iI 8)), (1, 1, s58.2.2.2.2.2.1), (2, 1, s58.2.2.2.2.1), (3, 1, v69)] fun v71 =>
qv h70 s58.2.2.2.2.2.2.1 v71 5 fun h72 =>
qP d60 h72 fun h73 =>
qT h73 s58.2.2.2.2.2.2.1 5 fun v74 =>
some (v74, h73)) (
qq .eql s58.2.1 (iI 12) fun v75 =>
qj v75 (
qJ s58.2.2.2.2.2.2.2.1 3 fun v76 =>
qZ h59 v76 fun v77 =>
qW c (.fn 56 [] []) [v77, (iI 0), (iI 3)] h59 fun v78 h79 =>
qm [(iI 0), (iI 0), (iI 0), (iI 0), (uU 0)] [(0, 1, (iI 9)), (1, 1, s58.2.2.2.2.2.1), (2, 1, s58.2.2.2.2.1), (3, 1, v78)] fun v80 =>
qv h79 s58.2.2.2.2.2.2.1 v80 5 fun h81 =>
qP d60 h81 fun h82 =>
qT h82 s58.2.2.2.2.2.2.1 5 fun v83 =>
some (v83, h82)) (
qw (α := AV × AV × AV × AV × AV × AV × AV × Unit → AH → List Nat → R) (fun s84 h85 d86 =>
qj s84.1 (
qm [(iI 0), (iI 0), (iI 0), (iI 0), (uU 0)] [(0, 1, (iI 10)), (1, 1, s84.2.2.2.2.2.1), (2, 1, s84.2.2.2.2.1)] fun v88 =>
qv h85 s84.2.2.2.2.2.2.1 v88 5 fun h89 =>
qP d86 h89 fun h90 =>
qT h90 s84.2.2.2.2.2.2.1 5 fun v91 =>
some (v91, h90)) (
qq .eql s84.2.1 (iI 15) fun v92 =>
qj v92 (
qm [(iI 0), (iI 0), (iI 0), (iI 0), (uU 0)] [(0, 1, (iI 11)), (1, 1, s84.2.2.2.2.2.1)] fun v93 =>
qv h85 s84.2.2.2.2.2.2.1 v93 5 fun h94 =>
qP d86 h94 fun h95 =>
qT h95 s84.2.2.2.2.2.2.1 5 fun v96 =>
some (v96, h95)) (
qq .eql s84.2.1 (iI 16) fun v97 =>
qj v97 (
qm [(iI 0), (iI 0), (iI 0), (iI 0), (uU 0)] [(0, 1, (iI 8)), (1, 1, s84.2.2.2.2.2.1), (2, 1, s84.2.2.2.1), (3, 1, s84.2.2.1)] fun v98 =>
qv h85 s84.2.2.2.2.2.2.1 v98 5 fun h99 =>
qP d86 h99 fun h100 =>
qT h100 s84.2.2.2.2.2.2.1 5 fun v101 =>
some (v101, h100)) (
qm [(iI 0), (iI 0), (iI 0), (iI 0), (uU 0)] [(0, 1, (iI 21)), (1, 1, s84.2.2.2.2.2.1)] fun v102 =>
qv h85 s84.2.2.2.2.2.2.1 v102 5 fun h103 =>
qP d86 h103 fun h104 =>
qT h104 s84.2.2.2.2.2.2.1 5 fun v105 =>
some (v105, h104))))) fun j87 =>
qq .eql s58.2.1 (iI 13) fun v106 =>
qj v106 (
j87 (v106, s58.2.1, s58.2.2.1, s58.2.2.2.1, s58.2.2.2.2.1, s58.2.2.2.2.2.1, s58.2.2.2.2.2.2.1, ()) h59 d60) (
qq .eql s58.2.1 (iI 14) fun v107 =>
j87 (v107, s58.2.1, s58.2.2.1, s58.2.2.2.1, s58.2.2.2.2.1, s58.2.2.2.2.2.1, s58.2.2.2.2.2.2.1, ()) h59 d60))))) fun j61 =>
qq .eql s50.2.1 (iI 8) fun v108 =>
qj v108 (
j61 (v108, s50.2.1, s50.2.2.1, s50.2.2.2.1, s50.2.2.2.2.1, s50.2.2.2.2.2.1, s50.2.2.2.2.2.2.1, s50.2.2.2.2.2.2.2.1, ()) h51 d52) (
qq .eql s50.2.1 (iI 9) fun v109 =>
qj v109 (
j61 (v109, s50.2.1, s50.2.2.1, s50.2.2.2.1, s50.2.2.2.2.1, s50.2.2.2.2.2.1, s50.2.2.2.2.2.2.1, s50.2.2.2.2.2.2.2.1, ()) h51 d52) (
qq .eql s50.2.1 (iI 10) fun v110 =>
j61 (v110, s50.2.1, s50.2.2.1, s50.2.2.2.1, s50.2.2.2.2.1, s50.2.2.2.2.2.1, s50.2.2.2.2.2.2.1, s50.2.2.2.2.2.2.2.1, ()) h51 d52)))) fun j53 =>
qq .eql s15.2.1 (iI 5) fun v111 =>
qj v111 (
j53 (v111, s15.2.1, s15.2.2.1, s15.2.2.2.1, s15.2.2.2.2.2.1, s15.2.2.2.2.2.2.1, s15.2.2.2.2.2.2.2.1, s15.2.2.2.2.2.2.2.2.1, ()) h16 d17) (
qq .eql s15.2.1 (iI 6) fun v112 =>
qj v112 (
j53 (v112, s15.2.1, s15.2.2.1, s15.2.2.2.1, s15.2.2.2.2.2.1, s15.2.2.2.2.2.2.1, s15.2.2.2.2.2.2.2.1, s15.2.2.2.2.2.2.2.2.1, ()) h16 d17) (
qq .eql s15.2.1 (iI 7) fun v113 =>
j53 (v113, s15.2.1, s15.2.2.1, s15.2.2.2.1, s15.2.2.2.2.2.1, s15.2.2.2.2.2.2.1, s15.2.2.2.2.2.2.2.1, s15.2.2.2.2.2.2.2.2.1, ()) h16 d17))))))) fun j18 =>
qq .eql v13 (iI 0) fun v114 =>
qj v114 (
j18 (v114, v13, v9, (iI 7), s4.1, s4.2.1, s4.2.2.1, s4.2.2.2.1, s4.2.2.2.2.1, ()) h14 []) (
qq .eql v13 (iI 1) fun v115 =>
j18 (v115, v13, v9, (iI 7), s4.1, s4.2.1, s4.2.2.1, s4.2.2.2.1, s4.2.2.2.2.1, ()) h14 [])) fun j6 =>
qJ v0 1 fun v116 =>
qZ h3 v116 fun v117 =>
qW c (.fn 58 [] []) [v117] h3 fun v118 h119 =>
qJ v0 2 fun v120 =>
qZ h119 v120 fun v121 =>
qW c (.fn 58 [] []) [v121] h119 fun v122 h123 =>
qJ v0 3 fun v124 =>
qZ h123 v124 fun v125 =>
qW c (.fn 58 [] []) [v125] h123 fun v126 h127 =>
zQ v124 none v125 h119 h123 h3.nx <|
zQ v124 none v125 h3 h119 h3.nx <|
zQ v120 none v121 h3 h119 h3.nx <|
j6 (v126, v122, v118, v2, v0, ()) h127
theorem S59_eq (c : CV) (a0 : AV) (h : AH) : qg Tryz.prog NN P59 c 59 [a0] h = S59 c a0 h := by kernel_rfl
def W59 : WF := w_1 S59
theorem W59_ok : WOk Tryz.prog 59 W59 := jY (pl := P59) fun _ _ _ => by rw [S59_eq]
def P69 : Pl := (.n none .z (.n none .z (.n none (.n none .z (.n none (.n (some [3]) .z .z) .z)) .z)))
def S69 (c : CV) (a0 : AV) (h : AH) : R :=
q9 h 52 .nils fun v0 h1 =>
qC a0 fun v2 =>
qJ v2 1 fun v3 =>
qZ h1 v3 fun v4 =>
qW c (.fn 99 [] []) [v4] h1 fun v5 h6 =>
QI c v5 [.yield (h6.new .dfd).nx] ((h6.new .dfd).new (.loop .ready none 69 [1, 1, 0, 1, 0] [3] [v0] h6.nx)) fun _ h7 =>
vK h7 (h6.new .dfd).nx fun p9 h8 =>
Qt p9 (
qZ h8 v0 fun v10 =>
qP (h6.nx :: []) h8 fun h11 =>
some (v10, h11)) <|
none
theorem S69_eq (c : CV) (a0 : AV) (h : AH) : qg Tryz.prog NN P69 c 69 [a0] h = S69 c a0 h := by kernel_rfl
def W69 : WF := w_1 S69
theorem W69_ok : WOk Tryz.prog 69 W69 := jY (pl := P69) fun _ _ _ => by rw [S69_eq]
def P70 : Pl := (.n none .z (.n none .z (.n none (.n none .z (.n none (.n (some [11, 10, 9, 3]) .z .z) .z)) .z)))
def S70 (_ : CV) (a0 : AV) (h : AH) : R :=
qC a0 fun v0 =>
qJ v0 1 fun v1 =>
qZ h v1 fun v2 =>
qr v2 fun v3 =>
jd (σ := AV × AV × AV × AV × Unit) NN (fun i7 s4 h5 d6 =>
qq .lss s4.1 s4.2.1 fun v8 =>
qj v8 (
jK s4.2.2.1 s4.1 1 fun v9 =>
qZ h5 v9 fun v10 =>
qC v10 fun v11 =>
qJ v11 1 fun v12 =>
qZ h5 v12 fun v13 =>
jX h5 3 1 s4.2.2.2.1 v13 fun v14 h15 =>
qq .add s4.1 (iI 1) fun v16 =>
i7 (v16, s4.2.1, s4.2.2.1, v14, ()) h15 d6) (
qP d6 h5 fun h17 =>
some (s4.2.2.2.1, h17))) ((iI 0), v3, v2, .nils, ()) h []
theorem S70_eq (c : CV) (a0 : AV) (h : AH) : qg Tryz.prog NN P70 c 70 [a0] h = S70 c a0 h := by kernel_rfl
def W70 : WF := w_1 S70
theorem W70_ok : WOk Tryz.prog 70 W70 := jY (pl := P70) fun _ _ _ => by rw [S70_eq]
def P72 : Pl := (.n none .z (.n none (.n none (.n none .z (.n none .z (.n none (.r [[11, 5, 3, 1]]) (.n none .z (.n none (.r [[33, 29, 5, 1]]) (.n none .z (.n none (.r [[42, 39]]) .z))))))) .z) .z))
def S72 (c : CV) (a0 a1 a2 : AV) (h : AH) : R :=
q9 h 31 a0 fun v0 h1 =>
q9 h1 28 a2 fun v2 h3 =>
qT h3 v2 5 fun v4 =>
qW c (.fn 103 [] []) [v4] h3 fun v5 h6 =>
pUn .not v5 fun v7 =>
qj v7 (
some ((iI 8), h6)) (
qw (α := AV × AV × AV × AV × Unit → AH → R) (fun s8 h9 =>
qj s8.1 (
some ((iI 12), h9)) (
qJ s8.2.1 0 fun v11 =>
qZ h9 v11 fun v12 =>
qq .eql v12 (iI 16) fun v13 =>
qw (α := AV × AV × AV × AV × Unit → AH → R) (fun s14 h15 =>
qn s14.2.1 s14.1 (.bool false) fun v17 =>
qj v17 (
some ((iI 12), h15)) (
qJ s14.2.2.1 0 fun v18 =>
qZ h15 v18 fun v19 =>
qW c (.fn 105 [] []) [v19] h15 fun v20 h21 =>
qw (α := AV × AV × Unit → AH → R) (fun s22 h23 =>
qn s22.2.1 s22.1 (.bool false) fun v25 =>
qj v25 (
some ((iI 9), h23)) (
some ((iI 0), h23))) fun j24 =>
qe v20 true (
qr s14.2.2.2.1 fun v26 =>
qq .geq v26 (iI 5) fun v27 =>
j24 (v27, v20, ()) h21) (
j24 (.undef, v20, ()) h21))) fun j16 =>
qe v13 true (
qT h9 s8.2.2.1 1 fun v28 =>
qW c (.fn 104 [] []) [s8.2.2.2.1, v28] h9 fun v29 h30 =>
qq .neq v29 (iI 14) fun v31 =>
j16 (v31, v13, s8.2.1, s8.2.2.2.1, ()) h30) (
j16 (.undef, v13, s8.2.1, s8.2.2.2.1, ()) h9))) fun j10 =>
qJ v2 0 fun v32 =>
qZ h6 v32 fun v33 =>
qW c (.fn 82 [] []) [v33] h6 fun v34 h35 =>
qq .gtr v34 (iI 0) fun v36 =>
qe v36 true (
qT h35 v0 1 fun v37 =>
qW c (.fn 104 [] []) [a1, v37] h35 fun v38 h39 =>
qJ v2 0 fun v40 =>
qZ h39 v40 fun v41 =>
qW c (.fn 82 [] []) [v41] h39 fun v42 h43 =>
qq .neq v38 v42 fun v44 =>
qn v36 v44 (.bool false) fun v45 =>
zQ v40 none v41 h35 h39 h6.nx <|
j10 (v45, v2, v0, a1, ()) h43) (
qn v36 .undef (.bool false) fun v46 =>
j10 (v46, v2, v0, a1, ()) h35))
theorem S72_eq (c : CV) (a0 a1 a2 : AV) (h : AH) : qg Tryz.prog NN P72 c 72 [a0, a1, a2] h = S72 c a0 a1 a2 h := by kernel_rfl
def W72 : WF := w_3 S72
theorem W72_ok : WOk Tryz.prog 72 W72 := jf (pl := P72) fun _ _ _ _ _ => by rw [S72_eq]
def P73 : Pl := (.n none .z (.n (some [2, 1, 0]) .z (.n (some [0]) (.n none (.r [[19, 17, 1, 0]]) .z) .z)))
def S73 (c : CV) (a0 a1 a2 : AV) (h : AH) : R :=
qw (α := AV × AV × AV × Unit → AH → List Nat → R) (fun s0 h1 d2 =>
qw (α := AV × Unit → AH → List Nat → R) (fun s4 h5 d6 =>
qP d6 h5 fun h8 =>
some (s4.1, h8)) fun j7 =>
qW c (.fn 105 [] []) [s0.1] h1 fun v9 h10 =>
qw (α := AV × AV × AV × AV × Unit → AH → R) (fun s11 h12 =>
qn s11.2.1 (.bool true) s11.1 fun v14 =>
qj v14 (
q8 h12 3 [(iI 0)] 1 [(0, 1, s11.2.2.1)] fun v15 h16 =>
jX h16 3 1 s11.2.2.2.1 v15 fun v17 h18 =>
j7 (v17, ()) h18 d2) (
j7 (s11.2.2.2.1, ()) h12 d2)) fun j13 =>
qe v9 false (
qq .eql s0.1 (iI 18) fun v19 =>
j13 (v19, v9, s0.2.1, s0.2.2.1, ()) h10) (
j13 (.undef, v9, s0.2.1, s0.2.2.1, ()) h10)) fun j3 =>
qW c (.fn 82 [] []) [a2] h fun v20 h21 =>
qq .gtr v20 (iI 0) fun v22 =>
qj v22 (
qr a0 fun v23 =>
qq .sub v23 (iI 1) fun v24 =>
ju h21 3 1 a0 none (some v24) fun v25 =>
j3 (a2, a1, v25, ()) h21 []) (
j3 (a2, a1, a0, ()) h21 [])
theorem S73_eq (c : CV) (a0 a1 a2 : AV) (h : AH) : qg Tryz.prog NN P73 c 73 [a0, a1, a2] h = S73 c a0 a1 a2 h := by kernel_rfl
def W73 : WF := w_3 S73
theorem W73_ok : WOk Tryz.prog 73 W73 := jf (pl := P73) fun _ _ _ _ _ => by rw [S73_eq]
def P74 : Pl := .z
def S74 (_ : CV) (a0 : AV) (h : AH) : R :=
qr a0 fun v0 =>
qq .eql v0 (iI 0) fun v1 =>
qj v1 (
some ((.int .i64 (.negSucc 0)), h)) (
qr a0 fun v2 =>
qq .sub v2 (iI 1) fun v3 =>
jK a0 v3 1 fun v4 =>
qZ h v4 fun v5 =>
some (v5, h))
theorem S74_eq (c : CV) (a0 : AV) (h : AH) : qg Tryz.prog NN P74 c 74 [a0] h = S74 c a0 h := by kernel_rfl
def W74 : WF := w_1 S74
theorem W74_ok : WOk Tryz.prog 74 W74 := jY (pl := P74) fun _ _ _ => by rw [S74_eq]
def P75 : Pl := (.n none .z (.n none (.n none .z (.n none (.n (some [11, 10, 9, 2, 1]) (.n none .z (.n none .z (.n none (.n (some [11, 10, 9, 2, 1]) (.n none .z (.n none .z (.n none (.r [[33, 26, 11, 10, 9, 7, 6, 2, 1], [38, 33, 26, 11, 10, 9, 7, 6, 2, 1], [39, 26, 11, 10, 9, 7, 6, 2, 1], [48, 41, 11, 10, 9, 7, 6, 2, 1], [58, 48, 41, 11, 10, 9, 6, 2, 1], [59, 41, 11, 10, 9, 6, 2, 1]]) .z))) .z) .z))) .z) .z)) .z))
def S75 (c : CV) (a0 a1 : AV) (h : AH) : R :=
q9 h 31 a0 fun v0 h1 =>
qJ v0 0 fun v2 =>
qZ h1 v2 fun v3 =>
qr v3 fun v4 =>
jd (σ := AV × AV × AV × AV × AV × Unit) NN (fun i8 s5 h6 d7 =>
qq .lss s5.1 s5.2.1 fun v9 =>
qj v9 (
qw (α := AV × AV × AV × AV × AV × Unit → AH → List Nat → R) (fun s10 h11 d12 =>
qq .add s10.1 (iI 1) fun v14 =>
i8 (v14, s10.2.1, s10.2.2.1, s10.2.2.2.1, s10.2.2.2.2.1, ()) h11 d12) fun j13 =>
jK s5.2.2.1 s5.1 5 fun v15 =>
qT h6 v15 5 fun v16 =>
q9 h6 28 (.agg [(iI 0), (iI 0), (iI 0), (iI 0), (uU 0)]) fun v17 h18 =>
qv h18 v17 v16 5 fun h19 =>
qJ v17 0 fun v20 =>
qZ h19 v20 fun v21 =>
qW c (.fn 106 [] []) [v21] h19 fun v22 h23 =>
pUn .not v22 fun v24 =>
qj v24 (
j13 (s5.1, s5.2.1, s5.2.2.1, s5.2.2.2.1, s5.2.2.2.2.1, ()) h23 d7) (
qJ v17 3 fun v25 =>
qZ h23 v25 fun v26 =>
qJ s5.2.2.2.1 0 fun v27 =>
qZ h23 v27 fun v28 =>
qr v28 fun v29 =>
qq .gtr v26 v29 fun v30 =>
qw (α := AV × AV × AV × AV × AV × AV × AV × AV × AV × Unit → AH → R) (fun s31 h32 =>
qw (α := AV × AV × AV × AV × AV × AV × AV × AV × AV × AV × Unit → AH → R) (fun s34 h35 =>
qw (α := AV × AV × AV × AV × AV × AV × AV × AV × AV × Unit → AH → R) (fun s37 h38 =>
qn s37.2.1 (.bool true) s37.1 fun v40 =>
qw (α := AV × AV × AV × AV × AV × AV × AV × AV × AV × Unit → AH → R) (fun s41 h42 =>
qw (α := AV × AV × AV × AV × AV × AV × AV × AV × AV × Unit → AH → R) (fun s44 h45 =>
qw (α := AV × AV × AV × AV × AV × AV × AV × AV × Unit → AH → R) (fun s47 h48 =>
qn s47.2.1 (.bool true) s47.1 fun v50 =>
qj v50 (
qP d7 h48 fun h51 =>
some ((.tup [s47.2.2.2.2.2.1, (iI 2)]), h51)) (
j13 (s47.2.2.1, s47.2.2.2.1, s47.2.2.2.2.1, s47.2.2.2.2.2.2.1, s47.2.2.2.2.2.2.2.1, ()) h48 d7)) fun j49 =>
qe s44.2.2.1 false (
qn s44.2.1 s44.1 (.bool false) fun v52 =>
j49 (v52, s44.2.2.1, s44.2.2.2.1, s44.2.2.2.2.1, s44.2.2.2.2.2.1, s44.2.2.2.2.2.2.1, s44.2.2.2.2.2.2.2.1, s44.2.2.2.2.2.2.2.2.1, ()) h45) (
j49 (.undef, s44.2.2.1, s44.2.2.2.1, s44.2.2.2.2.1, s44.2.2.2.2.2.1, s44.2.2.2.2.2.2.1, s44.2.2.2.2.2.2.2.1, s44.2.2.2.2.2.2.2.2.1, ()) h45)) fun j46 =>
qe s41.1 true (
qJ s41.2.2.2.2.2.1 3 fun v53 =>
qZ h42 v53 fun v54 =>
jK s41.2.2.2.2.2.2.2.2.1 v54 1 fun v55 =>
qZ h42 v55 fun v56 =>
jK s41.2.2.2.2.2.2.2.2.1 s41.2.2.2.2.2.2.1 1 fun v57 =>
qZ h42 v57 fun v58 =>
qq .neq v56 v58 fun v59 =>
j46 (v59, s41.1, s41.2.1, s41.2.2.1, s41.2.2.2.1, s41.2.2.2.2.1, s41.2.2.2.2.2.2.1, s41.2.2.2.2.2.2.2.1, s41.2.2.2.2.2.2.2.2.1, ()) h42) (
j46 (.undef, s41.1, s41.2.1, s41.2.2.1, s41.2.2.2.1, s41.2.2.2.2.1, s41.2.2.2.2.2.2.1, s41.2.2.2.2.2.2.2.1, s41.2.2.2.2.2.2.2.2.1, ()) h42)) fun j43 =>
qe v40 false (
qJ s37.2.2.2.2.2.1 3 fun v60 =>
qZ h38 v60 fun v61 =>
qJ s37.2.2.2.2.2.2.2.1 0 fun v62 =>
qZ h38 v62 fun v63 =>
qr v63 fun v64 =>
qq .lss v61 v64 fun v65 =>
j43 (v65, v40, s37.2.2.1, s37.2.2.2.1, s37.2.2.2.2.1, s37.2.2.2.2.2.1, s37.2.2.2.2.2.2.1, s37.2.2.2.2.2.2.2.1, s37.2.2.2.2.2.2.2.2.1, ()) h38) (
j43 (.undef, v40, s37.2.2.1, s37.2.2.2.1, s37.2.2.2.2.1, s37.2.2.2.2.2.1, s37.2.2.2.2.2.2.1, s37.2.2.2.2.2.2.2.1, s37.2.2.2.2.2.2.2.2.1, ()) h38)) fun j39 =>
qe s34.2.2.1 false (
qn s34.2.1 s34.1 (.bool false) fun v66 =>
j39 (v66, s34.2.2.1, s34.2.2.2.1, s34.2.2.2.2.1, s34.2.2.2.2.2.1, s34.2.2.2.2.2.2.1, s34.2.2.2.2.2.2.2.1, s34.2.2.2.2.2.2.2.2.1, s34.2.2.2.2.2.2.2.2.2.1, ()) h35) (
j39 (.undef, s34.2.2.1, s34.2.2.2.1, s34.2.2.2.2.1, s34.2.2.2.2.2.1, s34.2.2.2.2.2.2.1, s34.2.2.2.2.2.2.2.1, s34.2.2.2.2.2.2.2.2.1, s34.2.2.2.2.2.2.2.2.2.1, ()) h35)) fun j36 =>
qe s31.1 true (
jK s31.2.2.2.2.2.2.2.2.1 s31.2.2.2.2.2.2.1 1 fun v67 =>
qZ h32 v67 fun v68 =>
qq .neq v68 (.int .i64 (.negSucc 0)) fun v69 =>
j36 (v69, s31.1, s31.2.1, s31.2.2.1, s31.2.2.2.1, s31.2.2.2.2.1, s31.2.2.2.2.2.1, s31.2.2.2.2.2.2.1, s31.2.2.2.2.2.2.2.1, s31.2.2.2.2.2.2.2.2.1, ()) h32) (
j36 (.undef, s31.1, s31.2.1, s31.2.2.1, s31.2.2.2.1, s31.2.2.2.2.1, s31.2.2.2.2.2.1, s31.2.2.2.2.2.2.1, s31.2.2.2.2.2.2.2.1, s31.2.2.2.2.2.2.2.2.1, ()) h32)) fun j33 =>
qe v30 false (
qJ v17 3 fun v70 =>
qZ h23 v70 fun v71 =>
qJ s5.2.2.2.1 0 fun v72 =>
qZ h23 v72 fun v73 =>
qr v73 fun v74 =>
qq .eql v71 v74 fun v75 =>
j33 (v75, v30, s5.1, s5.2.1, s5.2.2.1, v17, s5.1, s5.2.2.2.1, s5.2.2.2.2.1, ()) h23) (
j33 (.undef, v30, s5.1, s5.2.1, s5.2.2.1, v17, s5.1, s5.2.2.2.1, s5.2.2.2.2.1, ()) h23))) (
qP d7 h6 fun h76 =>
some ((.tup [(iI 0), (iI 0)]), h76))) ((iI 0), v4, v3, v0, a1, ()) h1 []
theorem S75_eq (c : CV) (a0 a1 : AV) (h : AH) : qg Tryz.prog NN P75 c 75 [a0, a1] h = S75 c a0 a1 h := by kernel_rfl
def W75 : WF := w_2 S75
theorem W75_ok : WOk Tryz.prog 75 W75 := jg (pl := P75) fun _ _ _ _ => by rw [S75_eq]
def P76 : Pl := (.n none .z (.n none .z (.n none .z (.n none (.n none .z (.n none (.n (some [14, 13, 12, 4, 3]) .z .z) .z)) .z))))
def S76 (c : CV) (a0 : AV) (h : AH) : R :=
q9 h 31 a0 fun v0 h1 =>
qJ v0 0 fun v2 =>
qZ h1 v2 fun v3 =>
qr v3 fun v4 =>
yJ h1 3 [(iI 0)] v4 v4 fun v5 h6 =>
qJ v0 0 fun v7 =>
qZ h6 v7 fun v8 =>
qr v8 fun v9 =>
jd (σ := AV × AV × AV × AV × AV × Unit) NN (fun i13 s10 h11 d12 =>
qq .lss s10.1 s10.2.1 fun v14 =>
qj v14 (
jK s10.2.2.1 s10.1 5 fun v15 =>
qT h11 v15 5 fun v16 =>
q9 h11 28 (.agg [(iI 0), (iI 0), (iI 0), (iI 0), (uU 0)]) fun v17 h18 =>
qv h18 v17 v16 5 fun h19 =>
qW c (.fn 74 [] []) [s10.2.2.2.1] h19 fun v20 h21 =>
jK s10.2.2.2.2.1 s10.1 1 fun v22 =>
qv h21 v22 v20 1 fun h23 =>
qJ v17 0 fun v24 =>
qZ h23 v24 fun v25 =>
qW c (.fn 73 [] []) [s10.2.2.2.1, s10.1, v25] h23 fun v26 h27 =>
qq .add s10.1 (iI 1) fun v28 =>
i13 (v28, s10.2.1, s10.2.2.1, v26, s10.2.2.2.2.1, ()) h27 d12) (
qP d12 h11 fun h29 =>
some (s10.2.2.2.2.1, h29))) ((iI 0), v9, v8, .nils, v5, ()) h6 []
theorem S76_eq (c : CV) (a0 : AV) (h : AH) : qg Tryz.prog NN P76 c 76 [a0] h = S76 c a0 h := by kernel_rfl
def W76 : WF := w_1 S76
theorem W76_ok : WOk Tryz.prog 76 W76 := jY (pl := P76) fun _ _ _ => by rw [S76_eq]
def P77 : Pl := (.n none .z (.n none .z (.n none (.n none .z (.n none (.n (some [6, 5, 0]) (.n none .z (.n none (.n none (.n none .z (.n (some [7, 6, 5, 0]) .z .z)) .z) .z)) .z) .z)) .z)))
def S77 (c : CV) (a0 a1 : AV) (h : AH) : R :=
qr a0 fun v0 =>
qW c (.fn 11 [] []) [v0, a1] h fun v1 h2 =>
jd (σ := AV × AV × AV × Unit) NN (fun i6 s3 h4 d5 =>
qW c (.fn 107 [] []) [s3.2.1] h4 fun v7 h8 =>
qq .lss s3.1 v7 fun v9 =>
qj v9 (
qw (α := AV × AV × AV × AV × Unit → AH → List Nat → R) (fun s10 h11 d12 =>
qW c (.fn 15 [] []) [s10.2.2.1, s10.2.1, s10.1] h11 fun _ h15 =>
qq .add s10.2.1 (iI 1) fun v16 =>
i6 (v16, s10.2.2.1, s10.2.2.2.1, ()) h15 d12) fun j13 =>
qr s3.2.2.1 fun v17 =>
qq .lss s3.1 v17 fun v18 =>
qj v18 (
jK s3.2.2.1 s3.1 1 fun v19 =>
qZ h8 v19 fun v20 =>
j13 (v20, s3.1, s3.2.1, s3.2.2.1, ()) h8 d5) (
j13 ((uU 0), s3.1, s3.2.1, s3.2.2.1, ()) h8 d5)) (
qP d5 h8 fun h21 =>
some (s3.2.1, h21))) ((iI 1), v1, a0, ()) h2 []
theorem S77_eq (c : CV) (a0 a1 : AV) (h : AH) : qg Tryz.prog NN P77 c 77 [a0, a1] h = S77 c a0 a1 h := by kernel_rfl
def W77 : WF := w_2 S77
theorem W77_ok : WOk Tryz.prog 77 W77 := jg (pl := P77) fun _ _ _ _ => by rw [S77_eq]
def P78 : Pl := (.n none .z (.n none .z (.n (some [7, 5, 1, 0]) (.n none (.r [[19, 18, 7, 5, 1, 0]]) .z) .z)))
def S78 (c : CV) (a0 a1 : AV) (h : AH) : R :=
qW c (.fn 108 [] []) [a0, a1] h fun v0 h1 =>
qB v0 0 fun v2 =>
qB v0 1 fun v3 =>
qB v0 2 fun v4 =>
qw (α := AV × AV × AV × AV × Unit → AH → List Nat → R) (fun s5 h6 d7 =>
qq .neq s5.1 (iI 0) fun v9 =>
qj v9 (
qP d7 h6 fun h10 =>
some (s5.1, h10)) (
qW c (.fn 110 [] []) [s5.2.1] h6 fun v11 h12 =>
qW c (.fn 109 [] []) [s5.2.2.2.1, v11] h12 fun v13 h14 =>
qB v13 0 fun v15 =>
qB v13 1 fun v16 =>
qq .neq v16 (iI 0) fun v17 =>
qj v17 (
qP d7 h14 fun h18 =>
some (v16, h18)) (
qm [(iI 0), (uU 0)] [(0, 1, s5.2.2.1), (1, 1, v15)] fun v19 =>
qW c (.fn 110 [] []) [s5.2.1] h14 fun v20 h21 =>
jE .u64 s5.2.2.1 fun v22 =>
qm [(iI 0), (uU 0)] [(0, 1, v20), (1, 1, v22)] fun v23 =>
q8 h21 67 [(iI 0), (uU 0)] 2 [(0, 2, v19), (2, 2, v23)] fun v24 h25 =>
qW c (.fn 111 [] []) [s5.2.2.2.1, v24] h25 fun v26 h27 =>
qP d7 h27 fun h28 =>
some (v26, h28)))) fun j8 =>
qq .eql v4 (iI 0) fun v29 =>
qw (α := AV × AV × AV × AV × AV × AV × Unit → AH → R) (fun s30 h31 =>
qn s30.2.1 s30.1 (.bool false) fun v33 =>
qj v33 (
j8 ((iI 2), s30.2.2.2.1, s30.2.2.2.2.1, s30.2.2.2.2.2.1, ()) h31 []) (
j8 (s30.2.2.1, s30.2.2.2.1, s30.2.2.2.2.1, s30.2.2.2.2.2.1, ()) h31 [])) fun j32 =>
qe v29 true (
j32 (v3, v29, v4, v2, a1, a0, ()) h1) (
j32 (.undef, v29, v4, v2, a1, a0, ()) h1)
theorem S78_eq (c : CV) (a0 a1 : AV) (h : AH) : qg Tryz.prog NN P78 c 78 [a0, a1] h = S78 c a0 a1 h := by kernel_rfl
def W78 : WF := w_2 S78
theorem W78_ok : WOk Tryz.prog 78 W78 := jg (pl := P78) fun _ _ _ _ => by rw [S78_eq]
def P81 : Pl := .z
def S81 (c : CV) (h : AH) : R :=
qW c (.fn 100 [] []) [(iI 96)] h fun v0 h1 =>
qm [.nilp, .nils] [(0, 1, v0)] fun v2 =>
q9 h1 171 v2 fun v3 h4 =>
some (v3, h4)
theorem S81_eq (c : CV) (h : AH) : qg Tryz.prog NN P81 c 81 [] h = S81 c h := by kernel_rfl
def W81 : WF := w_0 S81
theorem W81_ok : WOk Tryz.prog 81 W81 := Yl (pl := P81) fun _ _ => by rw [S81_eq]
def P82 : Pl := .z
def S82 (_ : CV) (a0 : AV) (h : AH) : R :=
qq .eql a0 (iI 15) fun v0 =>
qj v0 (
some ((iI 14), h)) (
qq .eql a0 (iI 18) fun v1 =>
qj v1 (
some ((iI 17), h)) (
qq .eql a0 (iI 19) fun v2 =>
qj v2 (
some ((iI 18), h)) (
some ((iI 0), h))))
theorem S82_eq (c : CV) (a0 : AV) (h : AH) : qg Tryz.prog NN P82 c 82 [a0] h = S82 c a0 h := by kernel_rfl
def W82 : WF := w_1 S82
theorem W82_ok : WOk Tryz.prog 82 W82 := jY (pl := P82) fun _ _ _ => by rw [S82_eq]
def P83 : Pl := .z
def S83 (_ : CV) (a0 : AV) (h : AH) : R :=
qj a0 (
some ((uU 1), h)) (
some ((uU 0), h))
theorem S83_eq (c : CV) (a0 : AV) (h : AH) : qg Tryz.prog NN P83 c 83 [a0] h = S83 c a0 h := by kernel_rfl
def W83 : WF := w_1 S83
theorem W83_ok : WOk Tryz.prog 83 W83 := jY (pl := P83) fun _ _ _ => by rw [S83_eq]
def P84 : Pl := .z
def S84 (c : CV) (a0 a1 : AV) (h : AH) : R :=
qW c (.fn 112 [] []) [a0, (.iface 26 a1)] h fun v0 h1 =>
some (v0, h1)
theorem S84_eq (c : CV) (a0 a1 : AV) (h : AH) : qg Tryz.prog NN P84 c 84 [a0, a1] h = S84 c a0 a1 h := by kernel_rfl
def W84 : WF := w_2 S84
theorem W84_ok : WOk Tryz.prog 84 W84 := jg (pl := P84) fun _ _ _ _ => by rw [S84_eq]
def P85 : Pl := (.n none .z (.n none .z (.n none (.n none .z (.n none (.n none .z (.n none (.n none (.r [[4]]) .z) (.n none .z (.n none (.n none (.r [[4]]) .z) (.n none .z (.n none (.n none (.r [[4]]) .z) (.n none .z (.n none (.n none (.r [[4]]) .z) (.n none .z (.n none (.n none (.r [[4]]) .z) (.n none .z (.n none (.n none (.r [[4]]) .z) (.n none .z (.n none .z (.n none .z (.n none .z (.n none .z (.n none (.n none (.r [[4]]) .z) (.n none .z (.n none (.n none (.r [[4]]) .z) (.n none .z (.n none (.n none (.r [[4]]) .z) .z)))))))))))))))))))))) .z)) .z)))
def S85 (c : CV) (a0 a1 : AV) (h : AH) : R :=
q9 h 28 a1 fun v0 h1 =>
qJ v0 2 fun v2 =>
qZ h1 v2 fun v3 =>
qq .add (iI 6) v3 fun v4 =>
qJ v0 3 fun v5 =>
qZ h1 v5 fun v6 =>
qC a0 fun v7 =>
qJ v7 6 fun v8 =>
yH v8 v6 8 1 fun v9 =>
qZ h1 v9 fun v10 =>
qJ v0 3 fun v11 =>
qZ h1 v11 fun v12 =>
qq .add v12 (iI 1) fun v13 =>
qC a0 fun v14 =>
qJ v14 6 fun v15 =>
yH v15 v13 8 1 fun v16 =>
qZ h1 v16 fun v17 =>
qJ v0 1 fun v18 =>
qZ h1 v18 fun v19 =>
qq .eql v19 (iI 1) fun v20 =>
qj v20 (
qw (α := AV × Unit → AH → R) (fun s21 h22 =>
some (s21.1, h22)) fun j23 =>
qT h1 v0 5 fun v24 =>
qW c (.fn 113 [] []) [a0, v24] h1 fun v25 h26 =>
qC a0 fun v27 =>
qJ v27 1 fun v28 =>
qZ h26 v28 fun v29 =>
qW c (.fn 114 [] []) [v29, v4, v10] h26 fun v30 h31 =>
qB v30 0 fun v32 =>
qB v30 1 fun v33 =>
qW c v25 [v32, v33] h31 fun v34 h35 =>
zQ v28 none v29 h1 h26 h1.nx <|
j23 (v34, ()) h35) (
qq .eql v19 (iI 2) fun v36 =>
qj v36 (
qw (α := AV × Unit → AH → R) (fun s37 h38 =>
some (s37.1, h38)) fun j39 =>
qT h1 v0 5 fun v40 =>
qW c (.fn 113 [] []) [a0, v40] h1 fun v41 h42 =>
qC a0 fun v43 =>
qJ v43 1 fun v44 =>
qZ h42 v44 fun v45 =>
qW c (.fn 115 [] []) [v45, v4, v10] h42 fun v46 h47 =>
qB v46 0 fun v48 =>
qB v46 1 fun v49 =>
qW c v41 [v48, v49] h47 fun v50 h51 =>
zQ v44 none v45 h1 h42 h1.nx <|
j39 (v50, ()) h51) (
qq .eql v19 (iI 3) fun v52 =>
qj v52 (
qw (α := AV × Unit → AH → R) (fun s53 h54 =>
some (s53.1, h54)) fun j55 =>
qT h1 v0 5 fun v56 =>
qW c (.fn 113 [] []) [a0, v56] h1 fun v57 h58 =>
qC a0 fun v59 =>
qJ v59 1 fun v60 =>
qZ h58 v60 fun v61 =>
qW c (.fn 116 [] []) [v61, v4, v10] h58 fun v62 h63 =>
qB v62 0 fun v64 =>
qB v62 1 fun v65 =>
qW c v57 [v64, v65] h63 fun v66 h67 =>
zQ v60 none v61 h1 h58 h1.nx <|
j55 (v66, ()) h67) (
qq .eql v19 (iI 4) fun v68 =>
qj v68 (
qw (α := AV × Unit → AH → R) (fun s69 h70 =>
some (s69.1, h70)) fun j71 =>
qT h1 v0 5 fun v72 =>
qW c (.fn 113 [] []) [a0, v72] h1 fun v73 h74 =>
qC a0 fun v75 =>
qJ v75 1 fun v76 =>
qZ h74 v76 fun v77 =>
qW c (.fn 117 [] []) [v77, v4, v10, v17] h74 fun v78 h79 =>
qB v78 0 fun v80 =>
qB v78 1 fun v81 =>
qW c v73 [v80, v81] h79 fun v82 h83 =>
zQ v76 none v77 h1 h74 h1.nx <|
j71 (v82, ()) h83) (
qq .eql v19 (iI 5) fun v84 =>
qj v84 (
qw (α := AV × Unit → AH → R) (fun s85 h86 =>
some (s85.1, h86)) fun j87 =>
qT h1 v0 5 fun v88 =>
qW c (.fn 118 [] []) [a0, v88] h1 fun v89 h90 =>
qC a0 fun v91 =>
qJ v91 1 fun v92 =>
qZ h90 v92 fun v93 =>
qW c (.fn 119 [] []) [v93, v4, v10] h90 fun v94 h95 =>
qB v94 0 fun v96 =>
qB v94 1 fun v97 =>
qB v94 2 fun v98 =>
qW c v89 [v96, v97, v98] h95 fun v99 h100 =>
zQ v92 none v93 h1 h90 h1.nx <|
j87 (v99, ()) h100) (
qq .eql v19 (iI 6) fun v101 =>
qj v101 (
qw (α := AV × Unit → AH → R) (fun s102 h103 =>
some (s102.1, h103)) fun j104 =>
qT h1 v0 5 fun v105 =>
qW c (.fn 113 [] []) [a0, v105] h1 fun v106 h107 =>
qC a0 fun v108 =>
qJ v108 1 fun v109 =>
qZ h107 v109 fun v110 =>
qW c (.fn 120 [] []) [v110, v4, v10] h107 fun v111 h112 =>
qB v111 0 fun v113 =>
qB v111 1 fun v114 =>
qW c v106 [v113, v114] h112 fun v115 h116 =>
zQ v109 none v110 h1 h107 h1.nx <|
j104 (v115, ()) h116) (
qq .eql v19 (iI 7) fun v117 =>
qj v117 (
qW c (.fn 121 [] []) [a0, v4, v10] h1 fun v118 h119 =>
some (v118, h119)) (
qq .eql v19 (iI 8) fun v120 =>
qj v120 (
qT h1 v0 5 fun v121 =>
qW c (.fn 122 [] []) [a0, v121, v4] h1 fun v122 h123 =>
some (v122, h123)) (
qq .eql v19 (iI 9) fun v124 =>
qj v124 (
qw (α := AV × Unit → AH → R) (fun s125 h126 =>
some (s125.1, h126)) fun j127 =>
qT h1 v0 5 fun v128 =>
qW c (.fn 113 [] []) [a0, v128] h1 fun v129 h130 =>
qC a0 fun v131 =>
qJ v131 1 fun v132 =>
qZ h130 v132 fun v133 =>
qW c (.fn 123 [] []) [v133, v4, v10, v17] h130 fun v134 h135 =>
qB v134 0 fun v136 =>
qB v134 1 fun v137 =>
qW c v129 [v136, v137] h135 fun v138 h139 =>
zQ v132 none v133 h1 h130 h1.nx <|
j127 (v138, ()) h139) (
qq .eql v19 (iI 10) fun v140 =>
qj v140 (
qw (α := AV × Unit → AH → R) (fun s141 h142 =>
some (s141.1, h142)) fun j143 =>
qT h1 v0 5 fun v144 =>
qW c (.fn 118 [] []) [a0, v144] h1 fun v145 h146 =>
qC a0 fun v147 =>
qJ v147 1 fun v148 =>
qZ h146 v148 fun v149 =>
qW c (.fn 124 [] []) [v149, v4, v10] h146 fun v150 h151 =>
qB v150 0 fun v152 =>
qB v150 1 fun v153 =>
qB v150 2 fun v154 =>
qW c v145 [v152, v153, v154] h151 fun v155 h156 =>
zQ v148 none v149 h1 h146 h1.nx <|
j143 (v155, ()) h156) (
qq .eql v19 (iI 11) fun v157 =>
qj v157 (
qw (α := AV × Unit → AH → R) (fun s158 h159 =>
some (s158.1, h159)) fun j160 =>
qT h1 v0 5 fun v161 =>
qW c (.fn 113 [] []) [a0, v161] h1 fun v162 h163 =>
qC a0 fun v164 =>
qJ v164 1 fun v165 =>
qZ h163 v165 fun v166 =>
qW c (.fn 125 [] []) [v166, v4, v10] h163 fun v167 h168 =>
qB v167 0 fun v169 =>
qB v167 1 fun v170 =>
qW c v162 [v169, v170] h168 fun v171 h172 =>
zQ v165 none v166 h1 h163 h1.nx <|
j160 (v171, ()) h172) (
qC a0 fun v173 =>
qJ v173 1 fun v174 =>
qZ h1 v174 fun v175 =>
qW c (.fn 126 [] []) [v175, v4, v10, v17] h1 fun v176 h177 =>
qB v176 0 fun v178 =>
qB v176 1 fun v179 =>
qT h177 v0 5 fun v180 =>
qW c (.fn 118 [] []) [a0, v180] h177 fun v181 h182 =>
qr v178 fun v183 =>
jE .u64 v183 fun v184 =>
qW c v181 [v184, (.bool true), v179] h182 fun v185 h186 =>
some (v185, h186))))))))))))
theorem S85_eq (c : CV) (a0 a1 : AV) (h : AH) : qg Tryz.prog NN P85 c 85 [a0, a1] h = S85 c a0 a1 h := by kernel_rfl
def W85 : WF := w_2 S85
theorem W85_ok : WOk Tryz.prog 85 W85 := jg (pl := P85) fun _ _ _ _ => by rw [S85_eq]
def P86 : Pl := (.n none .z (.n none (.n none .z (.n none (.n none .z (.n none (.n none .z (.n none .z (.n none .z (.n (some [10]) .z .z)))) (.n none .z (.n none .z (.n none .z (.n none (.n none .z (.n none .z (.n (some [15]) .z .z))) .z)))))) .z)) .z))
def S86 (c : CV) (a0 a1 a2 a3 : AV) (h : AH) : R :=
q9 h 28 a1 fun v0 h1 =>
qJ v0 0 fun v2 =>
qZ h1 v2 fun v3 =>
qq .eql v3 (iI 8) fun v4 =>
qj v4 (
qJ v0 3 fun v5 =>
qZ h1 v5 fun v6 =>
qW c (.fn 127 [] []) [a3, v6] h1 fun v7 h8 =>
qB v7 0 fun v9 =>
qB v7 1 fun v10 =>
qq .neq v10 (iI 0) fun v11 =>
qj v11 (
some (v10, h8)) (
qC a0 fun v12 =>
qJ v12 1 fun v13 =>
qZ h8 v13 fun v14 =>
qW c (.fn 109 [] []) [v14, v9] h8 fun v15 h16 =>
qB v15 0 fun v17 =>
qB v15 1 fun v18 =>
qw (α := AV × Unit → AH → List Nat → R) (fun s19 h20 d21 =>
qP d21 h20 fun h23 =>
some (s19.1, h23)) fun j22 =>
qq .eql v18 (iI 0) fun v24 =>
qj v24 (
qC a2 fun v25 =>
qv h16 v25 v17 1 fun h26 =>
j22 (v18, ()) h26 []) (
j22 (v18, ()) h16 []))) (
qq .eql v3 (iI 9) fun v27 =>
qj v27 (
qC a2 fun v28 =>
qZ h1 v28 fun v29 =>
qJ v0 3 fun v30 =>
qZ h1 v30 fun v31 =>
qW c (.fn 127 [] []) [v29, v31] h1 fun v32 h33 =>
qB v32 0 fun v34 =>
qB v32 1 fun v35 =>
qq .neq v35 (iI 0) fun v36 =>
qj v36 (
some (v35, h33)) (
qC a0 fun v37 =>
qJ v37 1 fun v38 =>
qZ h33 v38 fun v39 =>
qW c (.fn 128 [] []) [v39, v34, a3] h33 fun v40 h41 =>
some (v40, h41))) (
qq .eql v3 (iI 10) fun v42 =>
qj v42 (
qq .geq a3 (uU 2147483648) fun v43 =>
qj v43 (
some ((iI 3), h1)) (
qC a0 fun v44 =>
qJ v44 1 fun v45 =>
qZ h1 v45 fun v46 =>
jE .i64 a3 fun v47 =>
qW c (.fn 129 [] []) [v46, v47] h1 fun v48 h49 =>
qB v48 0 fun v50 =>
qB v48 1 fun v51 =>
qw (α := AV × Unit → AH → List Nat → R) (fun s52 h53 d54 =>
qP d54 h53 fun h56 =>
some (s52.1, h56)) fun j55 =>
qq .eql v51 (iI 0) fun v57 =>
qj v57 (
jE .u64 v50 fun v58 =>
qC a2 fun v59 =>
qv h49 v59 v58 1 fun h60 =>
j55 (v51, ()) h60 []) (
j55 (v51, ()) h49 []))) (
qC a2 fun v61 =>
qZ h1 v61 fun v62 =>
qq .geq v62 (uU 2147483648) fun v63 =>
qj v63 (
some ((iI 2), h1)) (
qC a0 fun v64 =>
qJ v64 1 fun v65 =>
qZ h1 v65 fun v66 =>
qC a2 fun v67 =>
qZ h1 v67 fun v68 =>
jE .i64 v68 fun v69 =>
qW c (.fn 130 [] []) [v66, v69] h1 fun v70 h71 =>
some (v70, h71)))))
theorem S86_eq (c : CV) (a0 a1 a2 a3 : AV) (h : AH) : qg Tryz.prog NN P86 c 86 [a0, a1, a2, a3] h = S86 c a0 a1 a2 a3 h := by kernel_rfl
def W86 : WF := w_4 S86
theorem W86_ok : WOk Tryz.prog 86 W86 := yg (pl := P86) fun _ _ _ _ _ _ => by rw [S86_eq]
def P87 : Pl := (.n none .z (.n none (.n none .z (.n none (.n (some [7, 6, 3, 0]) .z (.n none .z (.n (some [18, 6, 0]) .z .z))) .z)) .z))
def S87 (c : CV) (a0 a1 : AV) (h : AH) : R :=
q9 h 28 a1 fun v0 h1 =>
qJ v0 0 fun v2 =>
qZ h1 v2 fun v3 =>
qw (α := AV × AV × AV × AV × Unit → AH → List Nat → R) (fun s4 h5 d6 =>
qj s4.1 (
qJ s4.2.2.1 0 fun v8 =>
qZ h5 v8 fun v9 =>
qC s4.2.2.2.1 fun v10 =>
qJ v10 15 fun v11 =>
qZ h5 v11 fun v12 =>
qW c (.fn 131 [] []) [s4.2.2.2.1, v9, v12] h5 fun v13 h14 =>
qP d6 h14 fun h15 =>
some (v13, h15)) (
qw (α := AV × AV × AV × Unit → AH → List Nat → R) (fun s16 h17 d18 =>
qj s16.1 (
qW c (.fn 132 [] []) [s16.2.2.1] h17 fun _ h21 =>
qC s16.2.2.1 fun v22 =>
qJ v22 1 fun v23 =>
qZ h21 v23 fun v24 =>
qW c (.fn 133 [] []) [v24] h21 fun v25 h26 =>
qP d18 h26 fun h27 =>
some (v25, h27)) (
qq .eql s16.2.1 (iI 18) fun v28 =>
qj v28 (
qW c (.fn 132 [] []) [s16.2.2.1] h17 fun _ h30 =>
qC s16.2.2.1 fun v31 =>
qJ v31 2 fun v32 =>
qZ h30 v32 fun v33 =>
qC s16.2.2.1 fun v34 =>
qJ v34 15 fun v35 =>
qZ h30 v35 fun v36 =>
jK v33 v36 1 fun v37 =>
qZ h30 v37 fun v38 =>
qq .add v38 (iI 1) fun v39 =>
qC s16.2.2.1 fun v40 =>
qJ v40 16 fun v41 =>
qv h30 v41 v39 1 fun h42 =>
qC s16.2.2.1 fun v43 =>
qJ v43 1 fun v44 =>
qZ h42 v44 fun v45 =>
qW c (.fn 133 [] []) [v45] h42 fun v46 h47 =>
qP d18 h47 fun h48 =>
some (v46, h48)) (
qq .eql s16.2.1 (iI 16) fun v49 =>
qj v49 (
qW c (.fn 132 [] []) [s16.2.2.1] h17 fun v50 h51 =>
qW c (.fn 134 [] []) [s16.2.2.1, v50] h51 fun _ h53 =>
qC s16.2.2.1 fun v54 =>
qJ v54 2 fun v55 =>
qZ h53 v55 fun v56 =>
qC s16.2.2.1 fun v57 =>
qJ v57 15 fun v58 =>
qZ h53 v58 fun v59 =>
jK v56 v59 1 fun v60 =>
qZ h53 v60 fun v61 =>
qq .add v61 (iI 1) fun v62 =>
qC s16.2.2.1 fun v63 =>
qJ v63 16 fun v64 =>
qv h53 v64 v62 1 fun h65 =>
qC s16.2.2.1 fun v66 =>
qJ v66 1 fun v67 =>
qZ h65 v67 fun v68 =>
qW c (.fn 135 [] []) [v68] h65 fun v69 h70 =>
qP d18 h70 fun h71 =>
some (v69, h71)) (
qW c (.fn 136 [] []) [s16.2.2.1] h17 fun v72 h73 =>
qP d18 h73 fun h74 =>
some (v72, h74))))) fun j19 =>
qq .eql s4.2.1 (iI 15) fun v75 =>
qj v75 (
j19 (v75, s4.2.1, s4.2.2.2.1, ()) h5 d6) (
qq .eql s4.2.1 (iI 19) fun v76 =>
j19 (v76, s4.2.1, s4.2.2.2.1, ()) h5 d6))) fun j7 =>
qq .eql v3 (iI 14) fun v77 =>
qj v77 (
j7 (v77, v3, v0, a0, ()) h1 []) (
qq .eql v3 (iI 17) fun v78 =>
j7 (v78, v3, v0, a0, ()) h1 [])
theorem S87_eq (c : CV) (a0 a1 : AV) (h : AH) : qg Tryz.prog NN P87 c 87 [a0, a1] h = S87 c a0 a1 h := by kernel_rfl
def W87 : WF := w_2 S87
theorem W87_ok : WOk Tryz.prog 87 W87 := jg (pl := P87) fun _ _ _ _ => by rw [S87_eq]
def P88 : Pl := .z
def S88 (_ : CV) (a0 : AV) (h : AH) : R :=
pEq .slc false a0 .nils fun v0 =>
qj v0 (
some (.nils, h)) (
q8 h 20 [.nili] 0 [] fun v1 h2 =>
jX h2 20 1 v1 a0 fun v3 h4 =>
some (v3, h4))
theorem S88_eq (c : CV) (a0 : AV) (h : AH) : qg Tryz.prog NN P88 c 88 [a0] h = S88 c a0 h := by kernel_rfl
def W88 : WF := w_1 S88
theorem W88_ok : WOk Tryz.prog 88 W88 := jY (pl := P88) fun _ _ _ => by rw [S88_eq]
def P89 : Pl := .z
def S89 (c : CV) (a0 a1 : AV) (h : AH) : R :=
qW c (.fn 137 [] []) [a0, a1] h fun v0 h1 =>
some (v0, h1)
theorem S89_eq (c : CV) (a0 a1 : AV) (h : AH) : qg Tryz.prog NN P89 c 89 [a0, a1] h = S89 c a0 a1 h := by kernel_rfl
def W89 : WF := w_2 S89
theorem W89_ok : WOk Tryz.prog 89 W89 := jg (pl := P89) fun _ _ _ _ => by rw [S89_eq]
def P99 : Pl := .z
def S99 (_ : CV) (a0 : AV) (h : AH) : R :=
q9 h 138 a0 fun v0 h1 =>
some ((.fn 150 [] [v0]), h1)
theorem S99_eq (c : CV) (a0 : AV) (h : AH) : qg Tryz.prog NN P99 c 99 [a0] h = S99 c a0 h := by kernel_rfl
def W99 : WF := w_1 S99
theorem W99_ok : WOk Tryz.prog 99 W99 := jY (pl := P99) fun _ _ _ => by rw [S99_eq]
def P100 : Pl := .z
def S100 (_ : CV) (a0 : AV) (h : AH) : R :=
pMM false [a0, (iI 96)] fun v0 =>
pMM true [(iI 0), v0] fun v1 =>
qm [(iI 0), .nils] [(0, 1, v1)] fun v2 =>
q9 h 211 v2 fun v3 h4 =>
some (v3, h4)
theorem S100_eq (c : CV) (a0 : AV) (h : AH) : qg Tryz.prog NN P100 c 100 [a0] h = S100 c a0 h := by kernel_rfl
def W100 : WF := w_1 S100
theorem W100_ok : WOk Tryz.prog 100 W100 := jY (pl := P100) fun _ _ _ => by rw [S100_eq]
def P101 : Pl := (.n none .z (.n none .z (.n none (.n none .z (.n none (.n (some [13, 12, 11, 5, 0]) .z .z) .z)) .z)))
def S101 (c : CV) (a0 a1 : AV) (h : AH) : R :=
qW c (.fn 102 [] []) [a0] h fun v0 h1 =>
qr a1 fun v2 =>
jd (σ := AV × AV × AV × AV × AV × Unit) NN (fun i6 s3 h4 d5 =>
qq .lss s3.1 s3.2.1 fun v7 =>
qj v7 (
jK s3.2.2.1 s3.1 2 fun v8 =>
qT h4 v8 2 fun v9 =>
q9 h4 67 (.agg [(iI 0), (uU 0)]) fun v10 h11 =>
qv h11 v10 v9 2 fun h12 =>
qJ v10 0 fun v13 =>
qZ h12 v13 fun v14 =>
qJ v10 1 fun v15 =>
qZ h12 v15 fun v16 =>
qW c (.fn 151 [] []) [s3.2.2.2.2.1, v14, v16] h12 fun v17 h18 =>
qq .neq v17 (iI 0) fun v19 =>
qj v19 (
qC s3.2.2.2.2.1 fun v20 =>
qJ v20 1 fun v21 =>
qv h18 v21 s3.2.2.2.1 1 fun h22 =>
qP d5 h22 fun h23 =>
some (v17, h23)) (
qq .add s3.1 (iI 1) fun v24 =>
i6 (v24, s3.2.1, s3.2.2.1, s3.2.2.2.1, s3.2.2.2.2.1, ()) h18 d5)) (
qP d5 h4 fun h25 =>
some ((iI 0), h25))) ((iI 0), v2, a1, v0, a0, ()) h1 []
theorem S101_eq (c : CV) (a0 a1 : AV) (h : AH) : qg Tryz.prog NN P101 c 101 [a0, a1] h = S101 c a0 a1 h := by kernel_rfl
def W101 : WF := w_2 S101
theorem W101_ok : WOk Tryz.prog 101 W101 := jg (pl := P101) fun _ _ _ _ => by rw [S101_eq]
def P102 : Pl := .z
def S102 (c : CV) (a0 : AV) (h : AH) : R :=
qC a0 fun v0 =>
qJ v0 1 fun v1 =>
qZ h v1 fun v2 =>
qW c (.fn 152 [] []) [v2] h fun v3 h4 =>
some (v3, h4)
theorem S102_eq (c : CV) (a0 : AV) (h : AH) : qg Tryz.prog NN P102 c 102 [a0] h = S102 c a0 h := by kernel_rfl
def W102 : WF := w_1 S102
theorem W102_ok : WOk Tryz.prog 102 W102 := jY (pl := P102) fun _ _ _ => by rw [S102_eq]
def P103 : Pl := (.n none .z (.n none .z (.n none (.r [[21, 17, 5, 4, 1], [27, 23, 5, 1], [33, 29, 1], [39, 35, 1], [42, 39, 35], [43, 35]]) .z)))
def S103 (c : CV) (a0 : AV) (h : AH) : R :=
q9 h 28 a0 fun v0 h1 =>
qJ v0 0 fun v2 =>
qZ h1 v2 fun v3 =>
qW c (.fn 153 [] []) [v3] h1 fun v4 h5 =>
qB v4 0 fun v6 =>
qB v4 1 fun v7 =>
qB v4 2 fun v8 =>
q9 h5 214 (.agg [(iI 0), (iI 0)]) fun v9 h10 =>
q9 h10 214 (.agg [(iI 0), (iI 0)]) fun v11 h12 =>
q9 h12 214 (.agg [(iI 0), (iI 0)]) fun v13 h14 =>
qv h14 v9 v6 2 fun h15 =>
qv h15 v11 v7 2 fun h16 =>
qv h16 v13 v8 2 fun h17 =>
qJ v0 0 fun v18 =>
qZ h17 v18 fun v19 =>
qW c (.fn 154 [] []) [v19] h17 fun v20 h21 =>
Y1 .neq v20 (.str []) fun v22 =>
qw (α := AV × AV × AV × AV × AV × Unit → AH → R) (fun s23 h24 =>
qn s23.2.1 s23.1 (.bool false) fun v26 =>
qw (α := AV × AV × AV × AV × Unit → AH → R) (fun s27 h28 =>
qn s27.2.1 s27.1 (.bool false) fun v30 =>
qw (α := AV × AV × AV × Unit → AH → R) (fun s31 h32 =>
qn s31.2.1 s31.1 (.bool false) fun v34 =>
qw (α := AV × AV × AV × Unit → AH → R) (fun s35 h36 =>
qw (α := AV × AV × AV × Unit → AH → R) (fun s38 h39 =>
qw (α := AV × AV × Unit → AH → R) (fun s41 h42 =>
qn s41.2.1 s41.1 (.bool false) fun v44 =>
some (v44, h42)) fun j43 =>
qe s38.2.2.1 true (
qn s38.2.1 (.bool true) s38.1 fun v45 =>
j43 (v45, s38.2.2.1, ()) h39) (
j43 (.undef, s38.2.2.1, ()) h39)) fun j40 =>
qe s35.1 false (
qJ s35.2.2.1 0 fun v46 =>
qZ h36 v46 fun v47 =>
qq .eql v47 (iI 1) fun v48 =>
j40 (v48, s35.1, s35.2.1, ()) h36) (
j40 (.undef, s35.1, s35.2.1, ()) h36)) fun j37 =>
qe v34 true (
qJ s31.2.2.1 4 fun v49 =>
qZ h32 v49 fun v50 =>
qq .eql v50 (uU 0) fun v51 =>
j37 (v51, v34, s31.2.2.1, ()) h32) (
j37 (.undef, v34, s31.2.2.1, ()) h32)) fun j33 =>
qe v30 true (
qT h28 s27.2.2.1 2 fun v52 =>
qJ s27.2.2.2.1 3 fun v53 =>
qZ h28 v53 fun v54 =>
qW c (.fn 155 [] []) [v52, v54] h28 fun v55 h56 =>
j33 (v55, v30, s27.2.2.2.1, ()) h56) (
j33 (.undef, v30, s27.2.2.2.1, ()) h28)) fun j29 =>
qe v26 true (
qT h24 s23.2.2.2.1 2 fun v57 =>
qJ s23.2.2.2.2.1 2 fun v58 =>
qZ h24 v58 fun v59 =>
qW c (.fn 155 [] []) [v57, v59] h24 fun v60 h61 =>
j29 (v60, v26, s23.2.2.1, s23.2.2.2.2.1, ()) h61) (
j29 (.undef, v26, s23.2.2.1, s23.2.2.2.2.1, ()) h24)) fun j25 =>
qe v22 true (
qT h21 v9 2 fun v62 =>
qJ v0 1 fun v63 =>
qZ h21 v63 fun v64 =>
qW c (.fn 155 [] []) [v62, v64] h21 fun v65 h66 =>
j25 (v65, v22, v13, v11, v0, ()) h66) (
j25 (.undef, v22, v13, v11, v0, ()) h21)
theorem S103_eq (c : CV) (a0 : AV) (h : AH) : qg Tryz.prog NN P103 c 103 [a0] h = S103 c a0 h := by kernel_rfl
def W103 : WF := w_1 S103
theorem W103_ok : WOk Tryz.prog 103 W103 := jY (pl := P103) fun _ _ _ => by rw [S103_eq]
def P104 : Pl := (.n none .z (.n none .z (.n none (.r [[4]]) .z)))
def S104 (c : CV) (a0 a1 : AV) (h : AH) : R :=
q9 h 31 a1 fun v0 h1 =>
qr a0 fun v2 =>
qq .eql v2 (iI 0) fun v3 =>
qj v3 (
some ((iI 0), h1)) (
qw (α := AV × Unit → AH → R) (fun s4 h5 =>
some (s4.1, h5)) fun j6 =>
qJ v0 0 fun v7 =>
qZ h1 v7 fun v8 =>
qW c (.fn 74 [] []) [a0] h1 fun v9 h10 =>
jK v8 v9 5 fun v11 =>
qJ v11 0 fun v12 =>
qZ h10 v12 fun v13 =>
zQ v7 none v8 h1 h10 h1.nx <|
j6 (v13, ()) h10)
theorem S104_eq (c : CV) (a0 a1 : AV) (h : AH) : qg Tryz.prog NN P104 c 104 [a0, a1] h = S104 c a0 a1 h := by kernel_rfl
def W104 : WF := w_2 S104
theorem W104_ok : WOk Tryz.prog 104 W104 := jg (pl := P104) fun _ _ _ _ => by rw [S104_eq]
def P105 : Pl := (.n none .z (.n none (.r [[7, 5]]) .z))
def S105 (_ : CV) (a0 : AV) (h : AH) : R :=
qq .eql a0 (iI 14) fun v0 =>
qw (α := AV × AV × Unit → AH → R) (fun s1 h2 =>
qn s1.2.1 (.bool true) s1.1 fun v4 =>
some (v4, h2)) fun j3 =>
qe v0 false (
qq .eql a0 (iI 17) fun v5 =>
j3 (v5, v0, ()) h) (
j3 (.undef, v0, ()) h)
theorem S105_eq (c : CV) (a0 : AV) (h : AH) : qg Tryz.prog NN P105 c 105 [a0] h = S105 c a0 h := by kernel_rfl
def W105 : WF := w_1 S105
theorem W105_ok : WOk Tryz.prog 105 W105 := jY (pl := P105) fun _ _ _ => by rw [S105_eq]
def P106 : Pl := (.n none .z (.n none (.r [[7, 5]]) .z))
def S106 (_ : CV) (a0 : AV) (h : AH) : R :=
qq .eql a0 (iI 12) fun v0 =>
qw (α := AV × AV × Unit → AH → R) (fun s1 h2 =>
qn s1.2.1 (.bool true) s1.1 fun v4 =>
some (v4, h2)) fun j3 =>
qe v0 false (
qq .eql a0 (iI 13) fun v5 =>
j3 (v5, v0, ()) h) (
j3 (.undef, v0, ()) h)
theorem S106_eq (c : CV) (a0 : AV) (h : AH) : qg Tryz.prog NN P106 c 106 [a0] h = S106 c a0 h := by kernel_rfl
def W106 : WF := w_1 S106
theorem W106_ok : WOk Tryz.prog 106 W106 := jY (pl := P106) fun _ _ _ => by rw [S106_eq]
def P107 : Pl := .z
def S107 (_ : CV) (a0 : AV) (h : AH) : R :=
qC a0 fun v0 =>
qJ v0 0 fun v1 =>
qZ h v1 fun v2 =>
qr v2 fun v3 =>
some (v3, h)
theorem S107_eq (c : CV) (a0 : AV) (h : AH) : qg Tryz.prog NN P107 c 107 [a0] h = S107 c a0 h := by kernel_rfl
def W107 : WF := w_1 S107
theorem W107_ok : WOk Tryz.prog 107 W107 := jY (pl := P107) fun _ _ _ => by rw [S107_eq]
def P108 : Pl := (.n none .z (.n none (.n none (.r [[17, 13, 1, 0]]) .z) .z))
def S108 (c : CV) (a0 a1 : AV) (h : AH) : R :=
qq .leq a1 (iI 14) fun v0 =>
qw (α := AV × AV × AV × AV × Unit → AH → R) (fun s1 h2 =>
qn s1.2.1 (.bool true) s1.1 fun v4 =>
qj v4 (
some ((.tup [(iI 0), (.bool false), (iI 2)]), h2)) (
qq .sub s1.2.2.1 (iI 1) fun v5 =>
qW c (.fn 109 [] []) [s1.2.2.2.1, v5] h2 fun v6 h7 =>
qB v6 0 fun v8 =>
qB v6 1 fun v9 =>
qq .neq v9 (iI 0) fun v10 =>
qj v10 (
some ((.tup [(iI 0), (.bool false), v9]), h7)) (
qW c (.fn 156 [] []) [v8] h7 fun v11 h12 =>
qB v11 0 fun v13 =>
qB v11 1 fun v14 =>
qq .eql v13 (iI 0) fun v15 =>
qj v15 (
some ((.tup [(iI 0), (.bool false), (iI 2)]), h12)) (
some ((.tup [v13, v14, (iI 0)]), h12))))) fun j3 =>
qe v0 false (
qW c (.fn 107 [] []) [a0] h fun v16 h17 =>
qq .geq a1 v16 fun v18 =>
j3 (v18, v0, a1, a0, ()) h17) (
j3 (.undef, v0, a1, a0, ()) h)
theorem S108_eq (c : CV) (a0 a1 : AV) (h : AH) : qg Tryz.prog NN P108 c 108 [a0, a1] h = S108 c a0 a1 h := by kernel_rfl
def W108 : WF := w_2 S108
theorem W108_ok : WOk Tryz.prog 108 W108 := jg (pl := P108) fun _ _ _ _ => by rw [S108_eq]
def P109 : Pl := .z
def S109 (c : CV) (a0 a1 : AV) (h : AH) : R :=
qW c (.fn 52 [] []) [a0, a1] h fun v0 h1 =>
pUn .not v0 fun v2 =>
qj v2 (
some ((.tup [(uU 0), (iI 2)]), h1)) (
qC a0 fun v3 =>
qJ v3 2 fun v4 =>
qZ h1 v4 fun v5 =>
qW c (.fn 157 [] []) [v5, a1] h1 fun v6 h7 =>
qB v6 0 fun v8 =>
qB v6 1 fun v9 =>
qj v9 (
some ((.tup [v8, (iI 0)]), h7)) (
qC a0 fun v10 =>
qJ v10 0 fun v11 =>
qZ h7 v11 fun v12 =>
jK v12 a1 2 fun v13 =>
qT h7 v13 2 fun v14 =>
q9 h7 105 (.agg [(uU 0), (.bool false)]) fun v15 h16 =>
qv h16 v15 v14 2 fun h17 =>
qJ v15 1 fun v18 =>
qZ h17 v18 fun v19 =>
qj v19 (
qJ v15 0 fun v20 =>
qZ h17 v20 fun v21 =>
some ((.tup [v21, (iI 0)]), h17)) (
qC a0 fun v22 =>
qJ v22 3 fun v23 =>
qv h17 v23 a1 1 fun h24 =>
some ((.tup [(uU 0), (iI 11)]), h24))))
theorem S109_eq (c : CV) (a0 a1 : AV) (h : AH) : qg Tryz.prog NN P109 c 109 [a0, a1] h = S109 c a0 a1 h := by kernel_rfl
def W109 : WF := w_2 S109
theorem W109_ok : WOk Tryz.prog 109 W109 := jg (pl := P109) fun _ _ _ _ => by rw [S109_eq]
def P110 : Pl := .z
def S110 (_ : CV) (a0 : AV) (h : AH) : R :=
qq .add (iI 0) a0 fun v0 =>
some (v0, h)
theorem S110_eq (c : CV) (a0 : AV) (h : AH) : qg Tryz.prog NN P110 c 110 [a0] h = S110 c a0 h := by kernel_rfl
def W110 : WF := w_1 S110
theorem W110_ok : WOk Tryz.prog 110 W110 := jY (pl := P110) fun _ _ _ => by rw [S110_eq]
def P111 : Pl := (.n none .z (.n none (.n none .z (.n none (.n (some [9, 8, 7, 1, 0]) .z .z) .z)) .z))
def S111 (c : CV) (a0 a1 : AV) (h : AH) : R :=
qr a1 fun v0 =>
jd (σ := AV × AV × AV × AV × AV × Unit) NN (fun i4 s1 h2 d3 =>
qq .lss s1.1 s1.2.1 fun v5 =>
qj v5 (
jK s1.2.2.1 s1.1 2 fun v6 =>
qT h2 v6 2 fun v7 =>
q9 h2 67 (.agg [(iI 0), (uU 0)]) fun v8 h9 =>
qv h9 v8 v7 2 fun h10 =>
qJ v8 0 fun v11 =>
qZ h10 v11 fun v12 =>
qW c (.fn 52 [] []) [s1.2.2.2.2.1, v12] h10 fun v13 h14 =>
pUn .not v13 fun v15 =>
qj v15 (
qP d3 h14 fun h16 =>
some ((iI 2), h16)) (
qq .add s1.1 (iI 1) fun v17 =>
i4 (v17, s1.2.1, s1.2.2.1, s1.2.2.2.1, s1.2.2.2.2.1, ()) h14 d3)) (
qC s1.2.2.2.2.1 fun v18 =>
qJ v18 2 fun v19 =>
qZ h2 v19 fun v20 =>
qW c (.fn 158 [] []) [v20, s1.2.2.2.1] h2 fun v21 h22 =>
qP d3 h22 fun h23 =>
some (v21, h23))) ((iI 0), v0, a1, a1, a0, ()) h []
theorem S111_eq (c : CV) (a0 a1 : AV) (h : AH) : qg Tryz.prog NN P111 c 111 [a0, a1] h = S111 c a0 a1 h := by kernel_rfl
def W111 : WF := w_2 S111
theorem W111_ok : WOk Tryz.prog 111 W111 := jg (pl := P111) fun _ _ _ _ => by rw [S111_eq]
def P112 : Pl := .z
def S112 (_ : CV) (a0 a1 : AV) (h : AH) : R :=
qC a0 fun v0 =>
qJ v0 0 fun v1 =>
qZ h v1 fun v2 =>
qr v2 fun v3 =>
qq .geq v3 (iI 16) fun v4 =>
qj v4 (
some ((.bool false), h)) (
qC a0 fun v5 =>
qJ v5 0 fun v6 =>
qZ h v6 fun v7 =>
q8 h 20 [.nili] 1 [(0, 1, a1)] fun v8 h9 =>
jX h9 20 1 v7 v8 fun v10 h11 =>
qC a0 fun v12 =>
qJ v12 0 fun v13 =>
qv h11 v13 v10 1 fun h14 =>
some ((.bool true), h14))
theorem S112_eq (c : CV) (a0 a1 : AV) (h : AH) : qg Tryz.prog NN P112 c 112 [a0, a1] h = S112 c a0 a1 h := by kernel_rfl
def W112 : WF := w_2 S112
theorem W112_ok : WOk Tryz.prog 112 W112 := jg (pl := P112) fun _ _ _ _ => by rw [S112_eq]
def P113 : Pl := .z
def S113 (_ : CV) (a0 a1 : AV) (h : AH) : R :=
q9 h 24 a0 fun v0 h1 =>
q9 h1 28 a1 fun v2 h3 =>
some ((.fn 159 [] [v0, v2]), h3)
theorem S113_eq (c : CV) (a0 a1 : AV) (h : AH) : qg Tryz.prog NN P113 c 113 [a0, a1] h = S113 c a0 a1 h := by kernel_rfl
def W113 : WF := w_2 S113
theorem W113_ok : WOk Tryz.prog 113 W113 := jg (pl := P113) fun _ _ _ _ => by rw [S113_eq]
def P114 : Pl := (.n none .z (.n none .z (.n none .z (.n none (.r [[17, 15, 9]]) .z))))
def S114 (c : CV) (a0 a1 a2 : AV) (h : AH) : R :=
q9 h 3 a1 fun v0 h1 =>
q9 h1 26 a2 fun v2 h3 =>
q9 h3 4 (.bool false) fun v4 h5 =>
qv h5 v4 (.bool false) 1 fun h6 =>
qZ h6 v0 fun v7 =>
qW c (.fn 161 [] []) [a0, v7, (.fn 162 [] [v0, v2, v4])] h6 fun v8 h9 =>
qZ h9 v4 fun v10 =>
qw (α := AV × AV × AV × Unit → AH → R) (fun s11 h12 =>
qn s11.2.1 s11.1 (.bool false) fun v14 =>
some ((.tup [v14, s11.2.2.1]), h12)) fun j13 =>
qe v10 true (
qq .eql v8 (iI 0) fun v15 =>
j13 (v15, v10, v8, ()) h9) (
j13 (.undef, v10, v8, ()) h9)
theorem S114_eq (c : CV) (a0 a1 a2 : AV) (h : AH) : qg Tryz.prog NN P114 c 114 [a0, a1, a2] h = S114 c a0 a1 a2 h := by kernel_rfl
def W114 : WF := w_3 S114
theorem W114_ok : WOk Tryz.prog 114 W114 := jf (pl := P114) fun _ _ _ _ _ => by rw [S114_eq]
def P115 : Pl := (.n none .z (.n none .z (.n none .z (.n none (.r [[17, 15, 9]]) .z))))
def S115 (c : CV) (a0 a1 a2 : AV) (h : AH) : R :=
q9 h 3 a1 fun v0 h1 =>
q9 h1 26 a2 fun v2 h3 =>
q9 h3 4 (.bool false) fun v4 h5 =>
qv h5 v4 (.bool false) 1 fun h6 =>
qZ h6 v0 fun v7 =>
qW c (.fn 161 [] []) [a0, v7, (.fn 169 [] [v0, v2, v4])] h6 fun v8 h9 =>
qZ h9 v4 fun v10 =>
qw (α := AV × AV × AV × Unit → AH → R) (fun s11 h12 =>
qn s11.2.1 s11.1 (.bool false) fun v14 =>
some ((.tup [v14, s11.2.2.1]), h12)) fun j13 =>
qe v10 true (
qq .eql v8 (iI 0) fun v15 =>
j13 (v15, v10, v8, ()) h9) (
j13 (.undef, v10, v8, ()) h9)
theorem S115_eq (c : CV) (a0 a1 a2 : AV) (h : AH) : qg Tryz.prog NN P115 c 115 [a0, a1, a2] h = S115 c a0 a1 a2 h := by kernel_rfl
def W115 : WF := w_3 S115
theorem W115_ok : WOk Tryz.prog 115 W115 := jf (pl := P115) fun _ _ _ _ _ => by rw [S115_eq]
def P116 : Pl := (.n none .z (.n none .z (.n none .z (.n none (.r [[17, 15, 9]]) .z))))
def S116 (c : CV) (a0 a1 a2 : AV) (h : AH) : R :=
q9 h 3 a1 fun v0 h1 =>
q9 h1 26 a2 fun v2 h3 =>
q9 h3 4 (.bool false) fun v4 h5 =>
qv h5 v4 (.bool false) 1 fun h6 =>
qZ h6 v0 fun v7 =>
qW c (.fn 161 [] []) [a0, v7, (.fn 172 [] [v0, v2, v4])] h6 fun v8 h9 =>
qZ h9 v4 fun v10 =>
qw (α := AV × AV × AV × Unit → AH → R) (fun s11 h12 =>
qn s11.2.1 s11.1 (.bool false) fun v14 =>
some ((.tup [v14, s11.2.2.1]), h12)) fun j13 =>
qe v10 true (
qq .eql v8 (iI 0) fun v15 =>
j13 (v15, v10, v8, ()) h9) (
j13 (.undef, v10, v8, ()) h9)
theorem S116_eq (c : CV) (a0 a1 a2 : AV) (h : AH) : qg Tryz.prog NN P116 c 116 [a0, a1, a2] h = S116 c a0 a1 a2 h := by kernel_rfl
def W116 : WF := w_3 S116
theorem W116_ok : WOk Tryz.prog 116 W116 := jf (pl := P116) fun _ _ _ _ _ => by rw [S116_eq]
def P117 : Pl := (.n none .z (.n none .z (.n none .z (.n none (.r [[19, 17, 11]]) .z))))
def S117 (c : CV) (a0 a1 a2 a3 : AV) (h : AH) : R :=
q9 h 3 a1 fun v0 h1 =>
q9 h1 26 a2 fun v2 h3 =>
q9 h3 26 a3 fun v4 h5 =>
q9 h5 4 (.bool false) fun v6 h7 =>
qv h7 v6 (.bool false) 1 fun h8 =>
qZ h8 v0 fun v9 =>
qW c (.fn 161 [] []) [a0, v9, (.fn 173 [] [v0, v2, v4, v6])] h8 fun v10 h11 =>
qZ h11 v6 fun v12 =>
qw (α := AV × AV × AV × Unit → AH → R) (fun s13 h14 =>
qn s13.2.1 s13.1 (.bool false) fun v16 =>
some ((.tup [v16, s13.2.2.1]), h14)) fun j15 =>
qe v12 true (
qq .eql v10 (iI 0) fun v17 =>
j15 (v17, v12, v10, ()) h11) (
j15 (.undef, v12, v10, ()) h11)
theorem S117_eq (c : CV) (a0 a1 a2 a3 : AV) (h : AH) : qg Tryz.prog NN P117 c 117 [a0, a1, a2, a3] h = S117 c a0 a1 a2 a3 h := by kernel_rfl
def W117 : WF := w_4 S117
theorem W117_ok : WOk Tryz.prog 117 W117 := yg (pl := P117) fun _ _ _ _ _ _ => by rw [S117_eq]
def P118 : Pl := .z
def S118 (_ : CV) (a0 a1 : AV) (h : AH) : R :=
q9 h 24 a0 fun v0 h1 =>
q9 h1 28 a1 fun v2 h3 =>
some ((.fn 178 [] [v0, v2]), h3)
theorem S118_eq (c : CV) (a0 a1 : AV) (h : AH) : qg Tryz.prog NN P118 c 118 [a0, a1] h = S118 c a0 a1 h := by kernel_rfl
def W118 : WF := w_2 S118
theorem W118_ok : WOk Tryz.prog 118 W118 := jg (pl := P118) fun _ _ _ _ => by rw [S118_eq]
def P119 : Pl := .z
def S119 (c : CV) (a0 a1 a2 : AV) (h : AH) : R :=
q9 h 3 a1 fun v0 h1 =>
q9 h1 26 a2 fun v2 h3 =>
q9 h3 26 (uU 0) fun v4 h5 =>
q9 h5 4 (.bool false) fun v6 h7 =>
qv h7 v4 (uU 0) 1 fun h8 =>
qv h8 v6 (.bool false) 1 fun h9 =>
qZ h9 v0 fun v10 =>
qW c (.fn 161 [] []) [a0, v10, (.fn 180 [] [v0, v2, v4, v6])] h9 fun v11 h12 =>
qq .neq v11 (iI 0) fun v13 =>
qj v13 (
some ((.tup [(uU 0), (.bool false), v11]), h12)) (
qZ h12 v4 fun v14 =>
qZ h12 v6 fun v15 =>
some ((.tup [v14, v15, (iI 0)]), h12))
theorem S119_eq (c : CV) (a0 a1 a2 : AV) (h : AH) : qg Tryz.prog NN P119 c 119 [a0, a1, a2] h = S119 c a0 a1 a2 h := by kernel_rfl
def W119 : WF := w_3 S119
theorem W119_ok : WOk Tryz.prog 119 W119 := jf (pl := P119) fun _ _ _ _ _ => by rw [S119_eq]
def P120 : Pl := (.n none .z (.n none .z (.n none .z (.n none (.r [[17, 15, 9]]) .z))))
def S120 (c : CV) (a0 a1 a2 : AV) (h : AH) : R :=
q9 h 3 a1 fun v0 h1 =>
q9 h1 26 a2 fun v2 h3 =>
q9 h3 4 (.bool false) fun v4 h5 =>
qv h5 v4 (.bool false) 1 fun h6 =>
qZ h6 v0 fun v7 =>
qW c (.fn 161 [] []) [a0, v7, (.fn 181 [] [v0, v2, v4])] h6 fun v8 h9 =>
qZ h9 v4 fun v10 =>
qw (α := AV × AV × AV × Unit → AH → R) (fun s11 h12 =>
qn s11.2.1 s11.1 (.bool false) fun v14 =>
some ((.tup [v14, s11.2.2.1]), h12)) fun j13 =>
qe v10 true (
qq .eql v8 (iI 0) fun v15 =>
j13 (v15, v10, v8, ()) h9) (
j13 (.undef, v10, v8, ()) h9)
theorem S120_eq (c : CV) (a0 a1 a2 : AV) (h : AH) : qg Tryz.prog NN P120 c 120 [a0, a1, a2] h = S120 c a0 a1 a2 h := by kernel_rfl
def W120 : WF := w_3 S120
theorem W120_ok : WOk Tryz.prog 120 W120 := jf (pl := P120) fun _ _ _ _ _ => by rw [S120_eq]
def P121 : Pl := .z
def S121 (c : CV) (a0 a1 a2 : AV) (h : AH) : R :=
qC a0 fun v0 =>
qJ v0 1 fun v1 =>
qZ h v1 fun v2 =>
qW c (.fn 182 [] []) [v2, a1, a2] h fun v3 h4 =>
qq .neq v3 (iI 0) fun v5 =>
qj v5 (
some (v3, h4)) (
qC a0 fun v6 =>
qJ v6 14 fun v7 =>
qZ h4 v7 fun v8 =>
qW c (.fn 179 [] []) [v8] h4 fun v9 h10 =>
pUn .not v9 fun v11 =>
qj v11 (
some ((iI 5), h10)) (
some ((iI 0), h10)))
theorem S121_eq (c : CV) (a0 a1 a2 : AV) (h : AH) : qg Tryz.prog NN P121 c 121 [a0, a1, a2] h = S121 c a0 a1 a2 h := by kernel_rfl
def W121 : WF := w_3 S121
theorem W121_ok : WOk Tryz.prog 121 W121 := jf (pl := P121) fun _ _ _ _ _ => by rw [S121_eq]
def P122 : Pl := (.n none .z (.n none .z (.n none (.n none (.r [[24, 22, 9, 8, 7, 4, 0]]) .z) .z)))
def S122 (c : CV) (a0 a1 a2 : AV) (h : AH) : R :=
q9 h 28 a1 fun v0 h1 =>
qC a0 fun v2 =>
qJ v2 1 fun v3 =>
qZ h1 v3 fun v4 =>
qW c (.fn 183 [] []) [v4, a2] h1 fun v5 h6 =>
qB v5 0 fun v7 =>
qB v5 1 fun v8 =>
qB v5 2 fun v9 =>
qq .eql v9 (iI 0) fun v10 =>
qw (α := AV × AV × AV × AV × AV × AV × AV × Unit → AH → R) (fun s11 h12 =>
qn s11.2.1 s11.1 (.bool false) fun v14 =>
qj v14 (
qW c (.fn 136 [] []) [s11.2.2.2.2.2.2.1] h12 fun v15 h16 =>
some (v15, h16)) (
qT h12 s11.2.2.2.2.2.1 5 fun v17 =>
qW c (.fn 118 [] []) [s11.2.2.2.2.2.2.1, v17] h12 fun v18 h19 =>
qW c v18 [s11.2.2.2.2.1, s11.2.2.2.1, s11.2.2.1] h19 fun v20 h21 =>
some (v20, h21))) fun j13 =>
qe v10 true (
pUn .not v8 fun v22 =>
j13 (v22, v10, v9, v8, v7, v0, a0, ()) h6) (
j13 (.undef, v10, v9, v8, v7, v0, a0, ()) h6)
theorem S122_eq (c : CV) (a0 a1 a2 : AV) (h : AH) : qg Tryz.prog NN P122 c 122 [a0, a1, a2] h = S122 c a0 a1 a2 h := by kernel_rfl
def W122 : WF := w_3 S122
theorem W122_ok : WOk Tryz.prog 122 W122 := jf (pl := P122) fun _ _ _ _ _ => by rw [S122_eq]
def P123 : Pl := (.n none .z (.n none .z (.n none .z (.n none (.r [[19, 17, 11]]) .z))))
def S123 (c : CV) (a0 a1 a2 a3 : AV) (h : AH) : R :=
q9 h 3 a1 fun v0 h1 =>
q9 h1 26 a2 fun v2 h3 =>
q9 h3 26 a3 fun v4 h5 =>
q9 h5 4 (.bool false) fun v6 h7 =>
qv h7 v6 (.bool false) 1 fun h8 =>
qZ h8 v0 fun v9 =>
qW c (.fn 161 [] []) [a0, v9, (.fn 184 [] [v0, v2, v4, v6])] h8 fun v10 h11 =>
qZ h11 v6 fun v12 =>
qw (α := AV × AV × AV × Unit → AH → R) (fun s13 h14 =>
qn s13.2.1 s13.1 (.bool false) fun v16 =>
some ((.tup [v16, s13.2.2.1]), h14)) fun j15 =>
qe v12 true (
qq .eql v10 (iI 0) fun v17 =>
j15 (v17, v12, v10, ()) h11) (
j15 (.undef, v12, v10, ()) h11)
theorem S123_eq (c : CV) (a0 a1 a2 a3 : AV) (h : AH) : qg Tryz.prog NN P123 c 123 [a0, a1, a2, a3] h = S123 c a0 a1 a2 a3 h := by kernel_rfl
def W123 : WF := w_4 S123
theorem W123_ok : WOk Tryz.prog 123 W123 := yg (pl := P123) fun _ _ _ _ _ _ => by rw [S123_eq]
def P124 : Pl := .z
def S124 (c : CV) (a0 a1 a2 : AV) (h : AH) : R :=
q9 h 3 a1 fun v0 h1 =>
q9 h1 26 a2 fun v2 h3 =>
q9 h3 26 (uU 0) fun v4 h5 =>
q9 h5 4 (.bool false) fun v6 h7 =>
qv h7 v4 (uU 0) 1 fun h8 =>
qv h8 v6 (.bool false) 1 fun h9 =>
qZ h9 v0 fun v10 =>
qW c (.fn 161 [] []) [a0, v10, (.fn 188 [] [v0, v2, v4, v6])] h9 fun v11 h12 =>
qq .neq v11 (iI 0) fun v13 =>
qj v13 (
some ((.tup [(uU 0), (.bool false), v11]), h12)) (
qZ h12 v4 fun v14 =>
qZ h12 v6 fun v15 =>
some ((.tup [v14, v15, (iI 0)]), h12))
theorem S124_eq (c : CV) (a0 a1 a2 : AV) (h : AH) : qg Tryz.prog NN P124 c 124 [a0, a1, a2] h = S124 c a0 a1 a2 h := by kernel_rfl
def W124 : WF := w_3 S124
theorem W124_ok : WOk Tryz.prog 124 W124 := jf (pl := P124) fun _ _ _ _ _ => by rw [S124_eq]
def P125 : Pl := (.n none .z (.n none .z (.n none .z (.n none (.r [[17, 15, 9]]) .z))))
def S125 (c : CV) (a0 a1 a2 : AV) (h : AH) : R :=
q9 h 3 a1 fun v0 h1 =>
q9 h1 26 a2 fun v2 h3 =>
q9 h3 4 (.bool false) fun v4 h5 =>
qv h5 v4 (.bool false) 1 fun h6 =>
qZ h6 v0 fun v7 =>
qW c (.fn 161 [] []) [a0, v7, (.fn 189 [] [v0, v2, v4])] h6 fun v8 h9 =>
qZ h9 v4 fun v10 =>
qw (α := AV × AV × AV × Unit → AH → R) (fun s11 h12 =>
qn s11.2.1 s11.1 (.bool false) fun v14 =>
some ((.tup [v14, s11.2.2.1]), h12)) fun j13 =>
qe v10 true (
qq .eql v8 (iI 0) fun v15 =>
j13 (v15, v10, v8, ()) h9) (
j13 (.undef, v10, v8, ()) h9)
theorem S125_eq (c : CV) (a0 a1 a2 : AV) (h : AH) : qg Tryz.prog NN P125 c 125 [a0, a1, a2] h = S125 c a0 a1 a2 h := by kernel_rfl
def W125 : WF := w_3 S125
theorem W125_ok : WOk Tryz.prog 125 W125 := jf (pl := P125) fun _ _ _ _ _ => by rw [S125_eq]
def P126 : Pl := .z
def S126 (c : CV) (a0 a1 a2 a3 : AV) (h : AH) : R :=
q9 h 3 a1 fun v0 h1 =>
q9 h1 26 a2 fun v2 h3 =>
q9 h3 26 a3 fun v4 h5 =>
q9 h5 188 .nils fun v6 h7 =>
qZ h7 v0 fun v8 =>
qW c (.fn 161 [] []) [a0, v8, (.fn 191 [] [v0, v2, v4, v6])] h7 fun v9 h10 =>
qq .neq v9 (iI 0) fun v11 =>
qj v11 (
some ((.tup [.nils, v9]), h10)) (
qZ h10 v6 fun v12 =>
some ((.tup [v12, (iI 0)]), h10))
theorem S126_eq (c : CV) (a0 a1 a2 a3 : AV) (h : AH) : qg Tryz.prog NN P126 c 126 [a0, a1, a2, a3] h = S126 c a0 a1 a2 a3 h := by kernel_rfl
def W126 : WF := w_4 S126
theorem W126_ok : WOk Tryz.prog 126 W126 := yg (pl := P126) fun _ _ _ _ _ _ => by rw [S126_eq]
def P127 : Pl := (.n none .z (.n none (.n none (.r [[13, 8, 1, 0], [20, 15, 1, 0]]) .z) .z))
def S127 (_ : CV) (a0 a1 : AV) (h : AH) : R :=
qq .geq a0 (uU 2147483648) fun v0 =>
qw (α := AV × AV × AV × AV × Unit → AH → R) (fun s1 h2 =>
qn s1.2.1 (.bool true) s1.1 fun v4 =>
qw (α := AV × AV × AV × AV × Unit → AH → R) (fun s5 h6 =>
qn s5.2.1 (.bool true) s5.1 fun v8 =>
qj v8 (
some ((.tup [(iI 0), (iI 2)]), h6)) (
jE .i64 s5.2.2.2.1 fun v9 =>
qq .add v9 s5.2.2.1 fun v10 =>
some ((.tup [v10, (iI 0)]), h6))) fun j7 =>
qe v4 false (
jE .i64 s1.2.2.2.1 fun v11 =>
qq .add v11 s1.2.2.1 fun v12 =>
qq .lss v12 (iI 6) fun v13 =>
j7 (v13, v4, s1.2.2.1, s1.2.2.2.1, ()) h2) (
j7 (.undef, v4, s1.2.2.1, s1.2.2.2.1, ()) h2)) fun j3 =>
qe v0 false (
jE .i64 a0 fun v14 =>
qq .add v14 a1 fun v15 =>
qq .geq v15 (iI 2147483648) fun v16 =>
j3 (v16, v0, a1, a0, ()) h) (
j3 (.undef, v0, a1, a0, ()) h)
theorem S127_eq (c : CV) (a0 a1 : AV) (h : AH) : qg Tryz.prog NN P127 c 127 [a0, a1] h = S127 c a0 a1 h := by kernel_rfl
def W127 : WF := w_2 S127
theorem W127_ok : WOk Tryz.prog 127 W127 := jg (pl := P127) fun _ _ _ _ => by rw [S127_eq]
def P128 : Pl := .z
def S128 (c : CV) (a0 a1 a2 : AV) (h : AH) : R :=
qW c (.fn 52 [] []) [a0, a1] h fun v0 h1 =>
pUn .not v0 fun v2 =>
qj v2 (
some ((iI 2), h1)) (
qC a0 fun v3 =>
qJ v3 2 fun v4 =>
qZ h1 v4 fun v5 =>
qW c (.fn 194 [] []) [v5, a1, a2] h1 fun v6 h7 =>
some (v6, h7))
theorem S128_eq (c : CV) (a0 a1 a2 : AV) (h : AH) : qg Tryz.prog NN P128 c 128 [a0, a1, a2] h = S128 c a0 a1 a2 h := by kernel_rfl
def W128 : WF := w_3 S128
theorem W128_ok : WOk Tryz.prog 128 W128 := jf (pl := P128) fun _ _ _ _ _ => by rw [S128_eq]
def P129 : Pl := .z
def S129 (c : CV) (a0 a1 : AV) (h : AH) : R :=
qW c (.fn 195 [] []) [a1] h fun v0 h1 =>
qq .eql v0 (iI 0) fun v2 =>
qj v2 (
some ((.tup [(iI 0), (iI 3)]), h1)) (
qW c (.fn 110 [] []) [v0] h1 fun v3 h4 =>
qW c (.fn 109 [] []) [a0, v3] h4 fun v5 h6 =>
qB v5 0 fun v7 =>
qB v5 1 fun v8 =>
qq .neq v8 (iI 0) fun v9 =>
qj v9 (
some ((.tup [(iI 0), v8]), h6)) (
qq .neq v7 (uU 0) fun v10 =>
qj v10 (
qW c (.fn 196 [] []) [a0, v0, v7] h6 fun v11 h12 =>
qB v11 0 fun v13 =>
qB v11 1 fun v14 =>
some ((.tup [v13, v14]), h12)) (
qW c (.fn 197 [] []) [a0, v0] h6 fun v15 h16 =>
qB v15 0 fun v17 =>
qB v15 1 fun v18 =>
some ((.tup [v17, v18]), h16))))
theorem S129_eq (c : CV) (a0 a1 : AV) (h : AH) : qg Tryz.prog NN P129 c 129 [a0, a1] h = S129 c a0 a1 h := by kernel_rfl
def W129 : WF := w_2 S129
theorem W129_ok : WOk Tryz.prog 129 W129 := jg (pl := P129) fun _ _ _ _ => by rw [S129_eq]
def P130 : Pl := (.n none .z (.n none .z (.n (some [7, 5, 1, 0]) (.n none (.r [[19, 17, 7, 5, 1, 0]]) .z) (.n (some [7, 1, 0]) .z (.n (some [7]) .z .z)))))
def S130 (c : CV) (a0 a1 : AV) (h : AH) : R :=
qW c (.fn 108 [] []) [a0, a1] h fun v0 h1 =>
qB v0 0 fun v2 =>
qB v0 1 fun v3 =>
qB v0 2 fun v4 =>
qw (α := AV × AV × AV × AV × Unit → AH → List Nat → R) (fun s5 h6 d7 =>
qw (α := AV × AV × AV × Unit → AH → List Nat → R) (fun s9 h10 d11 =>
qw (α := AV × Unit → AH → List Nat → R) (fun s13 h14 d15 =>
qP d15 h14 fun h17 =>
some (s13.1, h17)) fun j16 =>
qq .eql s9.1 (iI 0) fun v18 =>
qj v18 (
qW c (.fn 198 [] []) [s9.2.2.1, s9.2.1] h10 fun _ h20 =>
j16 (s9.1, ()) h20 d11) (
j16 (s9.1, ()) h10 d11)) fun j12 =>
qq .eql s5.1 (iI 0) fun v21 =>
qj v21 (
qq .sub s5.2.2.1 (iI 1) fun v22 =>
jE .u64 s5.2.1 fun v23 =>
qm [(iI 0), (uU 0)] [(0, 1, v22), (1, 1, v23)] fun v24 =>
q8 h6 67 [(iI 0), (uU 0)] 1 [(0, 2, v24)] fun v25 h26 =>
qW c (.fn 111 [] []) [s5.2.2.2.1, v25] h26 fun v27 h28 =>
j12 (v27, s5.2.2.1, s5.2.2.2.1, ()) h28 d7) (
j12 (s5.1, s5.2.2.1, s5.2.2.2.1, ()) h6 d7)) fun j8 =>
qq .eql v4 (iI 0) fun v29 =>
qw (α := AV × AV × AV × AV × AV × AV × Unit → AH → R) (fun s30 h31 =>
qn s30.2.1 s30.1 (.bool false) fun v33 =>
qj v33 (
j8 ((iI 2), s30.2.2.2.1, s30.2.2.2.2.1, s30.2.2.2.2.2.1, ()) h31 []) (
j8 (s30.2.2.1, s30.2.2.2.1, s30.2.2.2.2.1, s30.2.2.2.2.2.1, ()) h31 [])) fun j32 =>
qe v29 true (
pUn .not v3 fun v34 =>
j32 (v34, v29, v4, v2, a1, a0, ()) h1) (
j32 (.undef, v29, v4, v2, a1, a0, ()) h1)
theorem S130_eq (c : CV) (a0 a1 : AV) (h : AH) : qg Tryz.prog NN P130 c 130 [a0, a1] h = S130 c a0 a1 h := by kernel_rfl
def W130 : WF := w_2 S130
theorem W130_ok : WOk Tryz.prog 130 W130 := jg (pl := P130) fun _ _ _ _ => by rw [S130_eq]
def P131 : Pl := (.n none .z (.n none .z (.n none (.r [[]]) .z)))
def S131 (c : CV) (a0 a1 a2 : AV) (h : AH) : R :=
qC a0 fun v0 =>
qJ v0 1 fun v1 =>
qZ h v1 fun v2 =>
qW c (.fn 199 [] []) [v2] h fun v3 h4 =>
qq .neq v3 (iI 0) fun v5 =>
qj v5 (
some (v3, h4)) (
qw (α := Unit → AH → R) (fun _ h7 =>
some ((iI 0), h7)) fun j8 =>
qC a0 fun v9 =>
qJ v9 18 fun v10 =>
qZ h4 v10 fun v11 =>
qC a0 fun v12 =>
qJ v12 6 fun v13 =>
qT h4 v13 8 fun v14 =>
qC a0 fun v15 =>
qJ v15 14 fun v16 =>
qZ h4 v16 fun v17 =>
qW c (.fn 200 [] []) [v17] h4 fun v18 h19 =>
qm [(iI 0), (iI 0), (uU 0), (uU 0), (uU 0), (uU 0), (uU 0), (uU 0), (uU 0), (uU 0), (iI 0)] [(0, 1, a1), (1, 1, a2), (2, 8, v14), (10, 1, v18)] fun v20 =>
q8 h19 195 [(iI 0), (iI 0), (uU 0), (uU 0), (uU 0), (uU 0), (uU 0), (uU 0), (uU 0), (uU 0), (iI 0)] 1 [(0, 11, v20)] fun v21 h22 =>
jX h22 195 11 v11 v21 fun v23 h24 =>
qC a0 fun v25 =>
qJ v25 18 fun v26 =>
qv h24 v26 v23 1 fun h27 =>
zQ v13 (some 8) v14 h4 h19 h4.nx <|
zQ v10 none v11 h4 h19 h4.nx <|
j8 (()) h27)
theorem S131_eq (c : CV) (a0 a1 a2 : AV) (h : AH) : qg Tryz.prog NN P131 c 131 [a0, a1, a2] h = S131 c a0 a1 a2 h := by kernel_rfl
def W131 : WF := w_3 S131
theorem W131_ok : WOk Tryz.prog 131 W131 := jf (pl := P131) fun _ _ _ _ _ => by rw [S131_eq]
def P132 : Pl := .z
def S132 (_ : CV) (a0 : AV) (h : AH) : R :=
q9 h 195 (.agg [(iI 0), (iI 0), (uU 0), (uU 0), (uU 0), (uU 0), (uU 0), (uU 0), (uU 0), (uU 0), (iI 0)]) fun v0 h1 =>
qC a0 fun v2 =>
qJ v2 18 fun v3 =>
qZ h1 v3 fun v4 =>
qC a0 fun v5 =>
qJ v5 18 fun v6 =>
qZ h1 v6 fun v7 =>
qr v7 fun v8 =>
qq .sub v8 (iI 1) fun v9 =>
jK v4 v9 11 fun v10 =>
qT h1 v10 11 fun v11 =>
q9 h1 195 (.agg [(iI 0), (iI 0), (uU 0), (uU 0), (uU 0), (uU 0), (uU 0), (uU 0), (uU 0), (uU 0), (iI 0)]) fun v12 h13 =>
qv h13 v12 v11 11 fun h14 =>
qC a0 fun v15 =>
qJ v15 18 fun v16 =>
qZ h14 v16 fun v17 =>
qC a0 fun v18 =>
qJ v18 18 fun v19 =>
qZ h14 v19 fun v20 =>
qr v20 fun v21 =>
qq .sub v21 (iI 1) fun v22 =>
ju h14 195 11 v17 none (some v22) fun v23 =>
qC a0 fun v24 =>
qJ v24 18 fun v25 =>
qv h14 v25 v23 1 fun h26 =>
qT h26 v12 11 fun v27 =>
qv h26 v0 v27 11 fun h28 =>
qT h28 v0 11 fun v29 =>
some (v29, h28)
theorem S132_eq (c : CV) (a0 : AV) (h : AH) : qg Tryz.prog NN P132 c 132 [a0] h = S132 c a0 h := by kernel_rfl
def W132 : WF := w_1 S132
theorem W132_ok : WOk Tryz.prog 132 W132 := jY (pl := P132) fun _ _ _ => by rw [S132_eq]
def P133 : Pl := .z
def S133 (c : CV) (a0 : AV) (h : AH) : R :=
qC a0 fun v0 =>
qJ v0 2 fun v1 =>
qZ h v1 fun v2 =>
qW c (.fn 201 [] []) [v2] h fun v3 h4 =>
some (v3, h4)
theorem S133_eq (c : CV) (a0 : AV) (h : AH) : qg Tryz.prog NN P133 c 133 [a0] h = S133 c a0 h := by kernel_rfl
def W133 : WF := w_1 S133
theorem W133_ok : WOk Tryz.prog 133 W133 := jY (pl := P133) fun _ _ _ => by rw [S133_eq]
def P134 : Pl := .z
def S134 (c : CV) (a0 a1 : AV) (h : AH) : R :=
q9 h 195 a1 fun v0 h1 =>
qJ v0 2 fun v2 =>
qT h1 v2 8 fun v3 =>
qC a0 fun v4 =>
qJ v4 6 fun v5 =>
qv h1 v5 v3 8 fun h6 =>
qC a0 fun v7 =>
qJ v7 14 fun v8 =>
qZ h6 v8 fun v9 =>
qJ v0 10 fun v10 =>
qZ h6 v10 fun v11 =>
qW c (.fn 202 [] []) [v9, v11] h6 fun _ h13 =>
some ((.tup []), h13)
theorem S134_eq (c : CV) (a0 a1 : AV) (h : AH) : qg Tryz.prog NN P134 c 134 [a0, a1] h = S134 c a0 a1 h := by kernel_rfl
def W134 : WF := w_2 S134
theorem W134_ok : WOk Tryz.prog 134 W134 := jg (pl := P134) fun _ _ _ _ => by rw [S134_eq]
def P135 : Pl := .z
def S135 (c : CV) (a0 : AV) (h : AH) : R :=
qC a0 fun v0 =>
qJ v0 2 fun v1 =>
qZ h v1 fun v2 =>
qW c (.fn 203 [] []) [v2] h fun v3 h4 =>
some (v3, h4)
theorem S135_eq (c : CV) (a0 : AV) (h : AH) : qg Tryz.prog NN P135 c 135 [a0] h = S135 c a0 h := by kernel_rfl
def W135 : WF := w_1 S135
theorem W135_ok : WOk Tryz.prog 135 W135 := jY (pl := P135) fun _ _ _ => by rw [S135_eq]
def P136 : Pl := (.n none .z (.n none (.n none (.n (some [0]) .z .z) .z) .z))
def S136 (c : CV) (a0 : AV) (h : AH) : R :=
jd (σ := AV × Unit) NN (fun i3 s0 h1 d2 =>
qC s0.1 fun v4 =>
qJ v4 18 fun v5 =>
qZ h1 v5 fun v6 =>
qr v6 fun v7 =>
qq .gtr v7 (iI 0) fun v8 =>
qj v8 (
qW c (.fn 132 [] []) [s0.1] h1 fun v9 h10 =>
q9 h10 195 (.agg [(iI 0), (iI 0), (uU 0), (uU 0), (uU 0), (uU 0), (uU 0), (uU 0), (uU 0), (uU 0), (iI 0)]) fun v11 h12 =>
qv h12 v11 v9 11 fun h13 =>
qC s0.1 fun v14 =>
qJ v14 1 fun v15 =>
qZ h13 v15 fun v16 =>
qW c (.fn 135 [] []) [v16] h13 fun v17 h18 =>
qq .neq v17 (iI 0) fun v19 =>
qj v19 (
qP d2 h18 fun h20 =>
some (v17, h20)) (
qJ v11 0 fun v21 =>
qZ h18 v21 fun v22 =>
qq .eql v22 (iI 17) fun v23 =>
qj v23 (
qT h18 v11 11 fun v24 =>
qW c (.fn 134 [] []) [s0.1, v24] h18 fun _ h26 =>
qC s0.1 fun v27 =>
qJ v27 2 fun v28 =>
qZ h26 v28 fun v29 =>
qJ v11 1 fun v30 =>
qZ h26 v30 fun v31 =>
jK v29 v31 1 fun v32 =>
qZ h26 v32 fun v33 =>
qq .add v33 (iI 1) fun v34 =>
qC s0.1 fun v35 =>
qJ v35 16 fun v36 =>
qv h26 v36 v34 1 fun h37 =>
qW c (.fn 131 [] []) [s0.1, (iI 18), v33] h37 fun v38 h39 =>
qP d2 h39 fun h40 =>
some (v38, h40)) (
i3 (s0.1, ()) h18 d2))) (
qC s0.1 fun v41 =>
qJ v41 15 fun v42 =>
qZ h1 v42 fun v43 =>
qC s0.1 fun v44 =>
qJ v44 16 fun v45 =>
qv h1 v45 v43 1 fun h46 =>
qC s0.1 fun v47 =>
qJ v47 5 fun v48 =>
qv h46 v48 (iI 3) 1 fun h49 =>
qP d2 h49 fun h50 =>
some ((iI 0), h50))) (a0, ()) h []
theorem S136_eq (c : CV) (a0 : AV) (h : AH) : qg Tryz.prog NN P136 c 136 [a0] h = S136 c a0 h := by kernel_rfl
def W136 : WF := w_1 S136
theorem W136_ok : WOk Tryz.prog 136 W136 := jY (pl := P136) fun _ _ _ => by rw [S136_eq]
def P137 : Pl := .z
def S137 (c : CV) (a0 a1 : AV) (h : AH) : R :=
qq .eql a1 (iI 10) fun v0 =>
qj v0 (
qq .lss a0 (uU 100) fun v1 =>
qj v1 (
jE .i64 a0 fun v2 =>
qW c (.fn 204 [] []) [v2] h fun v3 h4 =>
some (v3, h4)) (
q9 h 246 (.agg [(.int .u8 (.ofNat 0)), (.int .u8 (.ofNat 0)), (.int .u8 (.ofNat 0)), (.int .u8 (.ofNat 0)), (.int .u8 (.ofNat 0)), (.int .u8 (.ofNat 0)), (.int .u8 (.ofNat 0)), (.int .u8 (.ofNat 0)), (.int .u8 (.ofNat 0)), (.int .u8 (.ofNat 0)), (.int .u8 (.ofNat 0)), (.int .u8 (.ofNat 0)), (.int .u8 (.ofNat 0)), (.int .u8 (.ofNat 0)), (.int .u8 (.ofNat 0)), (.int .u8 (.ofNat 0)), (.int .u8 (.ofNat 0)), (.int .u8 (.ofNat 0)), (.int .u8 (.ofNat 0)), (.int .u8 (.ofNat 0)), (.int .u8 (.ofNat 0)), (.int .u8 (.ofNat 0)), (.int .u8 (.ofNat 0)), (.int .u8 (.ofNat 0))]) fun v5 h6 =>
qW c (.fn 205 [] []) [a0] h6 fun v7 h8 =>
yD 24 1 v5 none (some v7) fun v9 =>
qW c (.fn 206 [] []) [v9, a0] h8 fun _ h11 =>
yD 24 1 v5 none (some v7) fun v12 =>
YO h11 v12 fun v13 =>
some (v13, h11))) (
qW c (.fn 207 [] []) [.nils, a0, a1, (.bool false), (.bool false)] h fun v14 h15 =>
qB v14 0 fun _ =>
qB v14 1 fun v17 =>
some (v17, h15))
theorem S137_eq (c : CV) (a0 a1 : AV) (h : AH) : qg Tryz.prog NN P137 c 137 [a0, a1] h = S137 c a0 a1 h := by kernel_rfl
def W137 : WF := w_2 S137
theorem W137_ok : WOk Tryz.prog 137 W137 := jg (pl := P137) fun _ _ _ _ => by rw [S137_eq]
def P150 : Pl := (.n none .z (.n none (.n (some [3, 1, 0]) .z .z) .z))
def S150 (c : CV) (a0 a1 : AV) (h : AH) : R :=
qZ h a1 fun v0 =>
qr v0 fun v1 =>
qq .sub v1 (iI 1) fun v2 =>
jd (σ := AV × AV × AV × Unit) NN (fun i6 s3 h4 d5 =>
qq .geq s3.1 (iI 0) fun v7 =>
qj v7 (
qZ h4 s3.2.1 fun v8 =>
jK v8 s3.1 1 fun v9 =>
qZ h4 v9 fun v10 =>
qW c s3.2.2.1 [s3.1, v10] h4 fun v11 h12 =>
pUn .not v11 fun v13 =>
qj v13 (
qP d5 h12 fun h14 =>
some ((.tup []), h14)) (
qq .sub s3.1 (iI 1) fun v15 =>
i6 (v15, s3.2.1, s3.2.2.1, ()) h12 d5)) (
qP d5 h4 fun h16 =>
some ((.tup []), h16))) (v2, a1, a0, ()) h []
theorem S150_eq (c : CV) (a0 a1 : AV) (h : AH) : qg Tryz.prog NN P150 c 150 [a0, a1] h = S150 c a0 a1 h := by kernel_rfl
def W150 : WF := w_2 S150
theorem W150_ok : WOk Tryz.prog 150 W150 := jg (pl := P150) fun _ _ _ _ => by rw [S150_eq]
def P151 : Pl := (.n none .z (.n none (.n none (.r [[12, 10, 2, 1, 0]]) .z) .z))
def S151 (c : CV) (a0 a1 a2 : AV) (h : AH) : R :=
qq .lss a1 (iI 1) fun v0 =>
qw (α := AV × AV × AV × AV × AV × Unit → AH → R) (fun s1 h2 =>
qn s1.2.1 (.bool true) s1.1 fun v4 =>
qj v4 (
some ((iI 2), h2)) (
qW c (.fn 218 [] []) [s1.2.2.2.2.1, s1.2.2.2.1] h2 fun v5 h6 =>
qq .geq v5 (iI 0) fun v7 =>
qj v7 (
qC s1.2.2.2.2.1 fun v8 =>
qJ v8 1 fun v9 =>
qZ h6 v9 fun v10 =>
jK v10 v5 2 fun v11 =>
qJ v11 1 fun v12 =>
qv h6 v12 s1.2.2.1 1 fun h13 =>
some ((iI 0), h13)) (
qC s1.2.2.2.2.1 fun v14 =>
qJ v14 1 fun v15 =>
qZ h6 v15 fun v16 =>
qr v16 fun v17 =>
qC s1.2.2.2.2.1 fun v18 =>
qJ v18 0 fun v19 =>
qZ h6 v19 fun v20 =>
qq .geq v17 v20 fun v21 =>
qj v21 (
some ((iI 5), h6)) (
qC s1.2.2.2.2.1 fun v22 =>
qJ v22 1 fun v23 =>
qZ h6 v23 fun v24 =>
qm [(iI 0), (uU 0)] [(0, 1, s1.2.2.2.1), (1, 1, s1.2.2.1)] fun v25 =>
q8 h6 67 [(iI 0), (uU 0)] 1 [(0, 2, v25)] fun v26 h27 =>
jX h27 67 2 v24 v26 fun v28 h29 =>
qC s1.2.2.2.2.1 fun v30 =>
qJ v30 1 fun v31 =>
qv h29 v31 v28 1 fun h32 =>
some ((iI 0), h32))))) fun j3 =>
qe v0 false (
qq .geq a1 (iI 256) fun v33 =>
j3 (v33, v0, a2, a1, a0, ()) h) (
j3 (.undef, v0, a2, a1, a0, ()) h)
theorem S151_eq (c : CV) (a0 a1 a2 : AV) (h : AH) : qg Tryz.prog NN P151 c 151 [a0, a1, a2] h = S151 c a0 a1 a2 h := by kernel_rfl
def W151 : WF := w_3 S151
theorem W151_ok : WOk Tryz.prog 151 W151 := jf (pl := P151) fun _ _ _ _ _ => by rw [S151_eq]
def P152 : Pl := .z
def S152 (_ : CV) (a0 : AV) (h : AH) : R :=
pEq .slc false a0 .nils fun v0 =>
qj v0 (
some (.nils, h)) (
q8 h 67 [(iI 0), (uU 0)] 0 [] fun v1 h2 =>
jX h2 67 2 v1 a0 fun v3 h4 =>
some (v3, h4))
theorem S152_eq (c : CV) (a0 : AV) (h : AH) : qg Tryz.prog NN P152 c 152 [a0] h = S152 c a0 h := by kernel_rfl
def W152 : WF := w_1 S152
theorem W152_ok : WOk Tryz.prog 152 W152 := jY (pl := P152) fun _ _ _ => by rw [S152_eq]
def P153 : Pl := (.n none .z (.n none .z (.n none (.n none .z (.n (some [4, 3, 2]) (.n (some [8, 7, 5, 4, 3, 2]) .z (.n none .z (.n (some [13, 7, 5, 4, 3, 2]) .z (.n none (.r [[4, 3, 2]]) (.n (some [18, 7, 5, 4, 3, 2]) .z (.n none (.r [[4, 3, 2]]) (.n (some [27, 7, 5, 4, 3, 2]) .z (.n none (.r [[4, 3, 2]]) .z)))))))) .z)) (.n none (.r [[4, 3, 2]]) .z))))
def S153 (_ : CV) (a0 : AV) (h : AH) : R :=
q9 h 214 (.agg [(iI 0), (iI 0)]) fun v0 h1 =>
q9 h1 214 (.agg [(iI 0), (iI 0)]) fun v2 h3 =>
q9 h3 214 (.agg [(iI 0), (iI 0)]) fun v4 h5 =>
qm [(iI 0), (iI 0)] [(1, 1, (iI 7))] fun v6 =>
q9 h5 214 (.agg [(iI 0), (iI 0)]) fun v7 h8 =>
qv h8 v7 v6 2 fun h9 =>
qw (α := AV × AV × AV × Unit → AH → List Nat → R) (fun s10 h11 d12 =>
qw (α := AV × AV × AV × Unit → AH → R) (fun s14 h15 =>
qP d12 h15 fun h17 =>
qT h17 s14.2.2.1 2 fun v18 =>
qT h17 s14.2.1 2 fun v19 =>
qT h17 s14.1 2 fun v20 =>
some ((.tup [v18, v19, v20]), h17)) fun j16 =>
qT h11 s10.2.2.1 2 fun v21 =>
qT h11 s10.2.1 2 fun v22 =>
qT h11 s10.1 2 fun v23 =>
qv h11 s10.2.2.1 v21 2 fun h24 =>
qv h24 s10.2.1 v22 2 fun h25 =>
qv h25 s10.1 v23 2 fun h26 =>
zQ s10.1 (some 2) v23 h24 h25 h11.nx <|
zQ s10.1 (some 2) v23 h11 h24 h11.nx <|
zQ s10.2.1 (some 2) v22 h11 h24 h11.nx <|
j16 (s10.1, s10.2.1, s10.2.2.1, ()) h26) fun j13 =>
qw (α := AV × AV × AV × AV × AV × AV × Unit → AH → List Nat → R) (fun s27 h28 d29 =>
qj s27.1 (
qT h28 s27.2.2.1 2 fun v31 =>
qv h28 s27.2.2.2.2.2.1 v31 2 fun h32 =>
j13 (s27.2.2.2.1, s27.2.2.2.2.1, s27.2.2.2.2.2.1, ()) h32 d29) (
qw (α := AV × AV × AV × AV × AV × AV × Unit → AH → List Nat → R) (fun s33 h34 d35 =>
qj s33.1 (
qw (α := AV × AV × AV × Unit → AH → R) (fun s37 h38 =>
j13 (s37.1, s37.2.1, s37.2.2.1, ()) h38 d35) fun j39 =>
qT h34 s33.2.2.1 2 fun v40 =>
qT h34 s33.2.2.1 2 fun v41 =>
qv h34 s33.2.2.2.2.2.1 v40 2 fun h42 =>
qv h42 s33.2.2.2.2.1 v41 2 fun h43 =>
zQ s33.2.2.1 (some 2) v41 h34 h42 h34.nx <|
j39 (s33.2.2.2.1, s33.2.2.2.2.1, s33.2.2.2.2.2.1, ()) h43) (
qw (α := AV × AV × AV × AV × AV × AV × Unit → AH → List Nat → R) (fun s44 h45 d46 =>
qj s44.1 (
qw (α := AV × AV × AV × Unit → AH → R) (fun s48 h49 =>
j13 (s48.1, s48.2.1, s48.2.2.1, ()) h49 d46) fun j50 =>
qT h45 s44.2.2.1 2 fun v51 =>
qT h45 s44.2.2.1 2 fun v52 =>
qT h45 s44.2.2.1 2 fun v53 =>
qv h45 s44.2.2.2.2.2.1 v51 2 fun h54 =>
qv h54 s44.2.2.2.2.1 v52 2 fun h55 =>
qv h55 s44.2.2.2.1 v53 2 fun h56 =>
zQ s44.2.2.1 (some 2) v53 h54 h55 h45.nx <|
zQ s44.2.2.1 (some 2) v53 h45 h54 h45.nx <|
zQ s44.2.2.1 (some 2) v52 h45 h54 h45.nx <|
j50 (s44.2.2.2.1, s44.2.2.2.2.1, s44.2.2.2.2.2.1, ()) h56) (
qw (α := AV × AV × AV × AV × AV × AV × Unit → AH → List Nat → R) (fun s57 h58 d59 =>
qj s57.1 (
qw (α := AV × AV × AV × Unit → AH → R) (fun s61 h62 =>
j13 (s61.1, s61.2.1, s61.2.2.1, ()) h62 d59) fun j63 =>
qT h58 s57.2.2.1 2 fun v64 =>
qT h58 s57.2.2.1 2 fun v65 =>
qm [(iI 0), (iI 0)] [(1, 1, (iI 15))] fun v66 =>
qv h58 s57.2.2.2.2.2.1 v64 2 fun h67 =>
qv h67 s57.2.2.2.2.1 v65 2 fun h68 =>
qv h68 s57.2.2.2.1 v66 2 fun h69 =>
zQ s57.2.2.1 (some 2) v65 h58 h67 h58.nx <|
j63 (s57.2.2.2.1, s57.2.2.2.2.1, s57.2.2.2.2.2.1, ()) h69) (
qq .eql s57.2.1 (iI 12) fun v70 =>
qj v70 (
qm [(iI 0), (iI 0)] [(1, 1, (iI 40))] fun v71 =>
qv h58 s57.2.2.2.1 v71 2 fun h72 =>
j13 (s57.2.2.2.1, s57.2.2.2.2.1, s57.2.2.2.2.2.1, ()) h72 d59) (
qq .eql s57.2.1 (iI 13) fun v73 =>
qj v73 (
qT h58 s57.2.2.1 2 fun v74 =>
qm [(iI 0), (iI 0)] [(1, 1, (iI 40))] fun v75 =>
qv h58 s57.2.2.2.2.2.1 v74 2 fun h76 =>
qv h76 s57.2.2.2.1 v75 2 fun h77 =>
j13 (s57.2.2.2.1, s57.2.2.2.2.1, s57.2.2.2.2.2.1, ()) h77 d59) (
qq .eql s57.2.1 (iI 23) fun v78 =>
qj v78 (
qm [(iI 0), (iI 0)] [(0, 1, (iI 1)), (1, 1, (iI 12))] fun v79 =>
qm [(iI 0), (iI 0)] [(1, 1, (iI 7))] fun v80 =>
qm [(iI 0), (iI 0)] [(1, 1, (iI 6))] fun v81 =>
qv h58 s57.2.2.2.2.2.1 v79 2 fun h82 =>
qv h82 s57.2.2.2.2.1 v80 2 fun h83 =>
qv h83 s57.2.2.2.1 v81 2 fun h84 =>
j13 (s57.2.2.2.1, s57.2.2.2.2.1, s57.2.2.2.2.2.1, ()) h84 d59) (
j13 (s57.2.2.2.1, s57.2.2.2.2.1, s57.2.2.2.2.2.1, ()) h58 d59))))) fun j60 =>
qq .eql s44.2.1 (iI 8) fun v85 =>
qj v85 (
j60 (v85, s44.2.1, s44.2.2.1, s44.2.2.2.1, s44.2.2.2.2.1, s44.2.2.2.2.2.1, ()) h45 d46) (
qq .eql s44.2.1 (iI 9) fun v86 =>
j60 (v86, s44.2.1, s44.2.2.1, s44.2.2.2.1, s44.2.2.2.2.1, s44.2.2.2.2.2.1, ()) h45 d46))) fun j47 =>
qq .eql s33.2.1 (iI 3) fun v87 =>
qj v87 (
j47 (v87, s33.2.1, s33.2.2.1, s33.2.2.2.1, s33.2.2.2.2.1, s33.2.2.2.2.2.1, ()) h34 d35) (
qq .eql s33.2.1 (iI 4) fun v88 =>
qj v88 (
j47 (v88, s33.2.1, s33.2.2.1, s33.2.2.2.1, s33.2.2.2.2.1, s33.2.2.2.2.2.1, ()) h34 d35) (
qq .eql s33.2.1 (iI 5) fun v89 =>
qj v89 (
j47 (v89, s33.2.1, s33.2.2.1, s33.2.2.2.1, s33.2.2.2.2.1, s33.2.2.2.2.2.1, ()) h34 d35) (
qq .eql s33.2.1 (iI 6) fun v90 =>
qj v90 (
j47 (v90, s33.2.1, s33.2.2.1, s33.2.2.2.1, s33.2.2.2.2.1, s33.2.2.2.2.2.1, ()) h34 d35) (
qq .eql s33.2.1 (iI 7) fun v91 =>
j47 (v91, s33.2.1, s33.2.2.1, s33.2.2.2.1, s33.2.2.2.2.1, s33.2.2.2.2.2.1, ()) h34 d35)))))) fun j36 =>
qq .eql s27.2.1 (iI 2) fun v92 =>
qj v92 (
j36 (v92, s27.2.1, s27.2.2.1, s27.2.2.2.1, s27.2.2.2.2.1, s27.2.2.2.2.2.1, ()) h28 d29) (
qq .eql s27.2.1 (iI 10) fun v93 =>
j36 (v93, s27.2.1, s27.2.2.1, s27.2.2.2.1, s27.2.2.2.2.1, s27.2.2.2.2.2.1, ()) h28 d29))) fun j30 =>
qq .eql a0 (iI 1) fun v94 =>
qj v94 (
j30 (v94, a0, v7, v4, v2, v0, ()) h9 []) (
qq .eql a0 (iI 11) fun v95 =>
qj v95 (
j30 (v95, a0, v7, v4, v2, v0, ()) h9 []) (
qq .eql a0 (iI 21) fun v96 =>
j30 (v96, a0, v7, v4, v2, v0, ()) h9 []))
theorem S153_eq (c : CV) (a0 : AV) (h : AH) : qg Tryz.prog NN P153 c 153 [a0] h = S153 c a0 h := by kernel_rfl
def W153 : WF := w_1 S153
theorem W153_ok : WOk Tryz.prog 153 W153 := jY (pl := P153) fun _ _ _ => by rw [S153_eq]
def P154 : Pl := .z
def S154 (c : CV) (a0 : AV) (h : AH) : R :=
qW c (.fn 220 [] []) [] h fun v0 h1 =>
qW c (.fn 219 [] []) [v0, a0] h1 fun v2 h3 =>
some (v2, h3)
theorem S154_eq (c : CV) (a0 : AV) (h : AH) : qg Tryz.prog NN P154 c 154 [a0] h = S154 c a0 h := by kernel_rfl
def W154 : WF := w_1 S154
theorem W154_ok : WOk Tryz.prog 154 W154 := jY (pl := P154) fun _ _ _ => by rw [S154_eq]
def P155 : Pl := (.n none .z (.n none (.r [[13, 9]]) .z))
def S155 (_ : CV) (a0 a1 : AV) (h : AH) : R :=
q9 h 214 a0 fun v0 h1 =>
qJ v0 0 fun v2 =>
qZ h1 v2 fun v3 =>
qq .geq a1 v3 fun v4 =>
qw (α := AV × AV × Unit → AH → R) (fun s5 h6 =>
qn s5.2.1 s5.1 (.bool false) fun v8 =>
some (v8, h6)) fun j7 =>
qe v4 true (
qJ v0 1 fun v9 =>
qZ h1 v9 fun v10 =>
qq .leq a1 v10 fun v11 =>
j7 (v11, v4, ()) h1) (
j7 (.undef, v4, ()) h1)
theorem S155_eq (c : CV) (a0 a1 : AV) (h : AH) : qg Tryz.prog NN P155 c 155 [a0, a1] h = S155 c a0 a1 h := by kernel_rfl
def W155 : WF := w_2 S155
theorem W155_ok : WOk Tryz.prog 155 W155 := jg (pl := P155) fun _ _ _ _ => by rw [S155_eq]
def P156 : Pl := (.n none .z (.n none (.n none (.n none (.r [[9, 7, 0]]) (.n none .z (.n none (.r [[18, 16, 0]]) .z))) .z) .z))
def S156 (_ : CV) (a0 : AV) (h : AH) : R :=
qq .geq a0 (uU 1) fun v0 =>
qw (α := AV × AV × AV × Unit → AH → R) (fun s1 h2 =>
qn s1.2.1 s1.1 (.bool false) fun v4 =>
qj v4 (
jE .i64 s1.2.2.1 fun v5 =>
some ((.tup [v5, (.bool false)]), h2)) (
qq .geq s1.2.2.1 (uU 9) fun v6 =>
qw (α := AV × AV × AV × Unit → AH → R) (fun s7 h8 =>
qn s7.2.1 s7.1 (.bool false) fun v10 =>
qj v10 (
qq .sub s7.2.2.1 (uU 8) fun v11 =>
jE .i64 v11 fun v12 =>
some ((.tup [v12, (.bool true)]), h8)) (
some ((.tup [(iI 0), (.bool false)]), h8))) fun j9 =>
qe v6 true (
qq .leq s1.2.2.1 (uU 12) fun v13 =>
j9 (v13, v6, s1.2.2.1, ()) h2) (
j9 (.undef, v6, s1.2.2.1, ()) h2))) fun j3 =>
qe v0 true (
qq .leq a0 (uU 4) fun v14 =>
j3 (v14, v0, a0, ()) h) (
j3 (.undef, v0, a0, ()) h)
theorem S156_eq (c : CV) (a0 : AV) (h : AH) : qg Tryz.prog NN P156 c 156 [a0] h = S156 c a0 h := by kernel_rfl
def W156 : WF := w_1 S156
theorem W156_ok : WOk Tryz.prog 156 W156 := jY (pl := P156) fun _ _ _ => by rw [S156_eq]
def P157 : Pl := (.n none .z (.n none (.n none .z (.n none (.n (some [5, 4, 3]) .z .z) .z)) .z))
def S157 (c : CV) (a0 a1 : AV) (h : AH) : R :=
q9 h 3 a1 fun v0 h1 =>
q9 h1 26 (uU 0) fun v2 h3 =>
q9 h3 4 (.bool false) fun v4 h5 =>
qC a0 fun v6 =>
qJ v6 1 fun v7 =>
qZ h5 v7 fun v8 =>
qW c (.fn 99 [] []) [v8] h5 fun v9 h10 =>
QI c v9 [.yield (h10.new .dfd).nx] ((h10.new .dfd).new (.loop .ready none 157 [1, 0, 1, 0] [5, 4, 3] [v4, v2, v0] h10.nx)) fun _ h11 =>
vK h11 (h10.new .dfd).nx fun p13 h12 =>
Qt p13 (
qv h12 v2 (uU 0) 1 fun h14 =>
qv h14 v4 (.bool false) 1 fun h15 =>
qP (h10.nx :: []) h15 fun h16 =>
qZ h16 v2 fun v17 =>
qZ h16 v4 fun v18 =>
some ((.tup [v17, v18]), h16)) <|
pIs p13 .ret (
qP (h10.nx :: []) h12 fun h19 =>
qZ h19 v2 fun v20 =>
qZ h19 v4 fun v21 =>
some ((.tup [v20, v21]), h19)) <|
none
theorem S157_eq (c : CV) (a0 a1 : AV) (h : AH) : qg Tryz.prog NN P157 c 157 [a0, a1] h = S157 c a0 a1 h := by kernel_rfl
def W157 : WF := w_2 S157
theorem W157_ok : WOk Tryz.prog 157 W157 := jg (pl := P157) fun _ _ _ _ => by rw [S157_eq]
def P158 : Pl := (.n none .z (.n none .z (.n none .z (.n none (.n none .z (.n none (.n (some [20, 19, 18, 5, 0]) .z .z) .z)) .z))))
def S158 (c : CV) (a0 a1 : AV) (h : AH) : R :=
qW c (.fn 100 [] []) [(iI 96)] h fun v0 h1 =>
qW c (.fn 222 [] []) [a0] h1 fun v2 h3 =>
qC v2 fun v4 =>
qJ v4 0 fun v5 =>
qZ h3 v5 fun v6 =>
qW c (.fn 102 [] []) [v6] h3 fun v7 h8 =>
qW c (.fn 101 [] []) [v0, v7] h8 fun _ h10 =>
qr a1 fun v11 =>
jd (σ := AV × AV × AV × AV × AV × Unit) NN (fun i15 s12 h13 d14 =>
qq .lss s12.1 s12.2.1 fun v16 =>
qj v16 (
jK s12.2.2.1 s12.1 2 fun v17 =>
qT h13 v17 2 fun v18 =>
q9 h13 67 (.agg [(iI 0), (uU 0)]) fun v19 h20 =>
qv h20 v19 v18 2 fun h21 =>
qJ v19 0 fun v22 =>
qZ h21 v22 fun v23 =>
qJ v19 1 fun v24 =>
qZ h21 v24 fun v25 =>
qW c (.fn 194 [] []) [s12.2.2.2.2.1, v23, v25] h21 fun v26 h27 =>
qq .neq v26 (iI 0) fun v28 =>
qj v28 (
qW c (.fn 222 [] []) [s12.2.2.2.2.1] h27 fun v29 h30 =>
qC v29 fun v31 =>
qJ v31 0 fun v32 =>
qv h30 v32 s12.2.2.2.1 1 fun h33 =>
qP d14 h33 fun h34 =>
some (v26, h34)) (
qq .add s12.1 (iI 1) fun v35 =>
i15 (v35, s12.2.1, s12.2.2.1, s12.2.2.2.1, s12.2.2.2.2.1, ()) h27 d14)) (
qP d14 h13 fun h36 =>
some ((iI 0), h36))) ((iI 0), v11, a1, v0, a0, ()) h10 []
theorem S158_eq (c : CV) (a0 a1 : AV) (h : AH) : qg Tryz.prog NN P158 c 158 [a0, a1] h = S158 c a0 a1 h := by kernel_rfl
def W158 : WF := w_2 S158
theorem W158_ok : WOk Tryz.prog 158 W158 := jg (pl := P158) fun _ _ _ _ => by rw [S158_eq]
def P159 : Pl := (.n none .z (.n none .z (.n none .z (.n none (.r [[]]) .z))))
def S159 (c : CV) (a0 a1 a2 a3 : AV) (h : AH) : R :=
qq .neq a1 (iI 0) fun v0 =>
qj v0 (
some (a1, h)) (
qZ h a2 fun v1 =>
qC v1 fun v2 =>
qJ v2 14 fun v3 =>
qZ h v3 fun v4 =>
qW c (.fn 160 [] []) [v4, a0] h fun v5 h6 =>
pUn .not v5 fun v7 =>
qj v7 (
some ((iI 5), h6)) (
qw (α := Unit → AH → R) (fun _ h9 =>
some ((iI 0), h9)) fun j10 =>
qZ h6 a2 fun v11 =>
qJ a3 3 fun v12 =>
qZ h6 v12 fun v13 =>
qW c (.fn 83 [] []) [a0] h6 fun v14 h15 =>
qC v11 fun v16 =>
qJ v16 6 fun v17 =>
yH v17 v13 8 1 fun v18 =>
qv h15 v18 v14 1 fun h19 =>
zQ v12 none v13 h6 h15 h6.nx <|
zQ a2 none v11 h6 h15 h6.nx <|
j10 (()) h19))
theorem S159_eq (c : CV) (a0 a1 a2 a3 : AV) (h : AH) : qg Tryz.prog NN P159 c 159 [a0, a1, a2, a3] h = S159 c a0 a1 a2 a3 h := by kernel_rfl
def W159 : WF := w_4 S159
theorem W159_ok : WOk Tryz.prog 159 W159 := yg (pl := P159) fun _ _ _ _ _ _ => by rw [S159_eq]
def P160 : Pl := .z
def S160 (c : CV) (a0 a1 : AV) (h : AH) : R :=
qW c (.fn 112 [] []) [a0, (.iface 4 a1)] h fun v0 h1 =>
some (v0, h1)
theorem S160_eq (c : CV) (a0 a1 : AV) (h : AH) : qg Tryz.prog NN P160 c 160 [a0, a1] h = S160 c a0 a1 h := by kernel_rfl
def W160 : WF := w_2 S160
theorem W160_ok : WOk Tryz.prog 160 W160 := jg (pl := P160) fun _ _ _ _ => by rw [S160_eq]
def P161 : Pl := (.n none .z (.n none (.n none (.r [[17, 15, 2, 0]]) .z) (.n none .z (.n none .z (.n none .z (.n none .z (.n none .z (.n none (.n none .z (.n none (.n (some [67, 66, 65, 0]) .z .z) .z)) .z))))))))
def S161 (c : CV) (a0 a1 a2 : AV) (h : AH) : R :=
qq .lss a1 (iI 6) fun v0 =>
qw (α := AV × AV × AV × AV × Unit → AH → R) (fun s1 h2 =>
qn s1.2.1 (.bool true) s1.1 fun v4 =>
qj v4 (
some ((iI 2), h2)) (
qW c (.fn 223 [] []) [s1.2.2.2.1] h2 fun v5 h6 =>
qm [.nilp, (iI 0), (iI 0)] [(0, 1, v5)] fun v7 =>
q9 h6 260 v7 fun v8 h9 =>
qW c s1.2.2.1 [v8] h9 fun _ h11 =>
qC v8 fun v12 =>
qJ v12 1 fun v13 =>
qZ h11 v13 fun v14 =>
qq .eql v14 (iI 11) fun v15 =>
qj v15 (
qC v8 fun v16 =>
qJ v16 0 fun v17 =>
qZ h11 v17 fun v18 =>
qW c (.fn 14 [] []) [v18] h11 fun v19 h20 =>
qW c (.fn 109 [] []) [s1.2.2.2.1, v19] h20 fun v21 h22 =>
qB v21 0 fun _ =>
qB v21 1 fun v24 =>
some (v24, h22)) (
qC v8 fun v25 =>
qJ v25 1 fun v26 =>
qZ h11 v26 fun v27 =>
qq .neq v27 (iI 0) fun v28 =>
qj v28 (
qC v8 fun v29 =>
qJ v29 1 fun v30 =>
qZ h11 v30 fun v31 =>
some (v31, h11)) (
qC v8 fun v32 =>
qJ v32 0 fun v33 =>
qZ h11 v33 fun v34 =>
qW c (.fn 31 [] []) [v34] h11 fun v35 h36 =>
qW c (.fn 111 [] []) [s1.2.2.2.1, v35] h36 fun v37 h38 =>
qq .neq v37 (iI 0) fun v39 =>
qj v39 (
some (v37, h38)) (
qC v8 fun v40 =>
qJ v40 0 fun v41 =>
qZ h38 v41 fun v42 =>
qW c (.fn 33 [] []) [v42] h38 fun v43 h44 =>
qr v43 fun v45 =>
jd (σ := AV × AV × AV × AV × Unit) NN (fun i49 s46 h47 d48 =>
qq .lss s46.1 s46.2.1 fun v50 =>
qj v50 (
jK s46.2.2.1 s46.1 1 fun v51 =>
qZ h47 v51 fun v52 =>
qW c (.fn 198 [] []) [s46.2.2.2.1, v52] h47 fun _ h54 =>
qq .add s46.1 (iI 1) fun v55 =>
i49 (v55, s46.2.1, s46.2.2.1, s46.2.2.2.1, ()) h54 d48) (
qP d48 h47 fun h56 =>
some ((iI 0), h56))) ((iI 0), v45, v43, s1.2.2.2.1, ()) h44 []))))) fun j3 =>
qe v0 false (
qq .geq a1 (iI 14) fun v57 =>
j3 (v57, v0, a2, a0, ()) h) (
j3 (.undef, v0, a2, a0, ()) h)
theorem S161_eq (c : CV) (a0 a1 a2 : AV) (h : AH) : qg Tryz.prog NN P161 c 161 [a0, a1, a2] h = S161 c a0 a1 a2 h := by kernel_rfl
def W161 : WF := w_3 S161
theorem W161_ok : WOk Tryz.prog 161 W161 := jf (pl := P161) fun _ _ _ _ _ => by rw [S161_eq]
def P162 : Pl := (.n none .z (.n none (.n none (.r [[22, 18, 6, 5, 3, 2, 0]]) .z) .z))
def S162 (c : CV) (a0 a1 a2 a3 : AV) (h : AH) : R :=
qZ h a1 fun v0 =>
qZ h a2 fun v1 =>
qW c (.fn 163 [] []) [a0, v0, v1] h fun v2 h3 =>
qB v2 0 fun v4 =>
qB v2 1 fun v5 =>
qW c (.fn 164 [] []) [a0] h3 fun v6 h7 =>
pUn .not v6 fun v8 =>
qw (α := AV × AV × AV × AV × AV × AV × AV × Unit → AH → R) (fun s9 h10 =>
qn s9.2.1 (.bool true) s9.1 fun v12 =>
qj v12 (
some ((.tup []), h10)) (
qW c (.fn 166 [] []) [s9.2.2.2.2.2.2.1, (iI 2)] h10 fun v13 h14 =>
qq .add v13 (iI 0) fun v15 =>
qZ h14 s9.2.2.2.2.2.1 fun v16 =>
qW c (.fn 167 [] []) [s9.2.2.2.2.2.2.1, v15, v16] h14 fun _ h18 =>
qq .add v13 (iI 1) fun v19 =>
qW c (.fn 168 [] []) [s9.2.2.2.2.2.2.1, v19, s9.2.2.1] h18 fun _ h21 =>
qW c (.fn 168 [] []) [s9.2.2.2.2.2.2.1, s9.2.2.2.1, v13] h21 fun _ h23 =>
qv h23 s9.2.2.2.2.1 (.bool true) 1 fun h24 =>
some ((.tup []), h24))) fun j11 =>
qe v8 false (
qZ h7 a2 fun v25 =>
qW c (.fn 165 [] []) [a0, v5, v25] h7 fun v26 h27 =>
j11 (v26, v8, v5, v4, a3, a2, a0, ()) h27) (
j11 (.undef, v8, v5, v4, a3, a2, a0, ()) h7)
theorem S162_eq (c : CV) (a0 a1 a2 a3 : AV) (h : AH) : qg Tryz.prog NN P162 c 162 [a0, a1, a2, a3] h = S162 c a0 a1 a2 a3 h := by kernel_rfl
def W162 : WF := w_4 S162
theorem W162_ok : WOk Tryz.prog 162 W162 := yg (pl := P162) fun _ _ _ _ _ _ => by rw [S162_eq]
def P163 : Pl := (.n none .z (.n none .z (.n none (.n (some [7, 6]) (.n (some [7, 6, 2, 0]) (.n none .z (.n none (.n none .z (.n none (.n none (.r [[22, 16, 7, 6, 2, 0]]) .z) .z)) .z)) .z) .z) .z)))
def S163 (c : CV) (a0 a1 a2 : AV) (h : AH) : R :=
qw (α := AV × AV × Unit → AH → List Nat → R) (fun s0 h1 d2 =>
qP d2 h1 fun h4 =>
some ((.tup [s0.2.1, s0.1]), h4)) fun j3 =>
jd (σ := AV × AV × AV × AV × Unit) NN (fun i8 s5 h6 d7 =>
qW c (.fn 224 [] []) [s5.2.2.2.1] h6 fun v9 h10 =>
qj v9 (
qW c (.fn 225 [] []) [s5.2.2.2.1, s5.2.1] h10 fun v11 h12 =>
qq .eql v11 (iI 0) fun v13 =>
qw (α := AV × AV × AV × AV × AV × AV × Unit → AH → R) (fun s14 h15 =>
qn s14.2.1 (.bool true) s14.1 fun v17 =>
qj v17 (
j3 (s14.2.2.1, s14.2.2.2.1, ()) h15 d7) (
qq .add s14.2.2.1 (iI 1) fun v18 =>
i8 (s14.2.2.1, v18, s14.2.2.2.2.1, s14.2.2.2.2.2.1, ()) h15 d7)) fun j16 =>
qe v13 false (
qq .add v11 (iI 0) fun v19 =>
qW c (.fn 170 [] []) [s5.2.2.2.1, v19] h12 fun v20 h21 =>
qq .geq v20 s5.2.2.1 fun v22 =>
j16 (v22, v13, v11, s5.2.1, s5.2.2.1, s5.2.2.2.1, ()) h21) (
j16 (.undef, v13, v11, s5.2.1, s5.2.2.1, s5.2.2.2.1, ()) h12)) (
j3 (s5.1, s5.2.1, ()) h10 d7)) ((iI 0), a1, a2, a0, ()) h []
theorem S163_eq (c : CV) (a0 a1 a2 : AV) (h : AH) : qg Tryz.prog NN P163 c 163 [a0, a1, a2] h = S163 c a0 a1 a2 h := by kernel_rfl
def W163 : WF := w_3 S163
theorem W163_ok : WOk Tryz.prog 163 W163 := jf (pl := P163) fun _ _ _ _ _ => by rw [S163_eq]
def P164 : Pl := .z
def S164 (_ : CV) (a0 : AV) (h : AH) : R :=
qC a0 fun v0 =>
qJ v0 1 fun v1 =>
qZ h v1 fun v2 =>
qq .eql v2 (iI 0) fun v3 =>
some (v3, h)
theorem S164_eq (c : CV) (a0 : AV) (h : AH) : qg Tryz.prog NN P164 c 164 [a0] h = S164 c a0 h := by kernel_rfl
def W164 : WF := w_1 S164
theorem W164_ok : WOk Tryz.prog 164 W164 := jY (pl := P164) fun _ _ _ => by rw [S164_eq]
def P165 : Pl := (.n none .z (.n none (.r [[11, 9, 2, 1, 0], [19, 13]]) .z))
def S165 (c : CV) (a0 a1 a2 : AV) (h : AH) : R :=
qW c (.fn 164 [] []) [a0] h fun v0 h1 =>
qw (α := AV × AV × AV × AV × AV × Unit → AH → R) (fun s2 h3 =>
qn s2.2.1 s2.1 (.bool false) fun v5 =>
qw (α := AV × AV × Unit → AH → R) (fun s6 h7 =>
qn s6.2.1 s6.1 (.bool false) fun v9 =>
some (v9, h7)) fun j8 =>
qe v5 true (
qq .add s2.2.2.2.1 (iI 0) fun v10 =>
qW c (.fn 170 [] []) [s2.2.2.2.2.1, v10] h3 fun v11 h12 =>
qq .eql v11 s2.2.2.1 fun v13 =>
j8 (v13, v5, ()) h12) (
j8 (.undef, v5, ()) h3)) fun j4 =>
qe v0 true (
qq .neq a1 (iI 0) fun v14 =>
j4 (v14, v0, a2, a1, a0, ()) h1) (
j4 (.undef, v0, a2, a1, a0, ()) h1)
theorem S165_eq (c : CV) (a0 a1 a2 : AV) (h : AH) : qg Tryz.prog NN P165 c 165 [a0, a1, a2] h = S165 c a0 a1 a2 h := by kernel_rfl
def W165 : WF := w_3 S165
theorem W165_ok : WOk Tryz.prog 165 W165 := jf (pl := P165) fun _ _ _ _ _ => by rw [S165_eq]
def P166 : Pl := .z
def S166 (c : CV) (a0 a1 : AV) (h : AH) : R :=
qW c (.fn 164 [] []) [a0] h fun v0 h1 =>
pUn .not v0 fun v2 =>
qj v2 (
some ((iI 0), h1)) (
qC a0 fun v3 =>
qJ v3 0 fun v4 =>
qZ h1 v4 fun v5 =>
qW c (.fn 129 [] []) [v5, a1] h1 fun v6 h7 =>
qB v6 0 fun v8 =>
qB v6 1 fun v9 =>
qW c (.fn 226 [] []) [a0, v9] h7 fun _ h11 =>
some (v8, h11))
theorem S166_eq (c : CV) (a0 a1 : AV) (h : AH) : qg Tryz.prog NN P166 c 166 [a0, a1] h = S166 c a0 a1 h := by kernel_rfl
def W166 : WF := w_2 S166
theorem W166_ok : WOk Tryz.prog 166 W166 := jg (pl := P166) fun _ _ _ _ => by rw [S166_eq]
def P167 : Pl := .z
def S167 (c : CV) (a0 a1 a2 : AV) (h : AH) : R :=
qW c (.fn 164 [] []) [a0] h fun v0 h1 =>
qj v0 (
qC a0 fun v2 =>
qJ v2 0 fun v3 =>
qZ h1 v3 fun v4 =>
qW c (.fn 128 [] []) [v4, a1, a2] h1 fun v5 h6 =>
qW c (.fn 226 [] []) [a0, v5] h6 fun _ h8 =>
some ((.tup []), h8)) (
some ((.tup []), h1))
theorem S167_eq (c : CV) (a0 a1 a2 : AV) (h : AH) : qg Tryz.prog NN P167 c 167 [a0, a1, a2] h = S167 c a0 a1 a2 h := by kernel_rfl
def W167 : WF := w_3 S167
theorem W167_ok : WOk Tryz.prog 167 W167 := jf (pl := P167) fun _ _ _ _ _ => by rw [S167_eq]
def P168 : Pl := .z
def S168 (c : CV) (a0 a1 a2 : AV) (h : AH) : R :=
jE .u64 a2 fun v0 =>
qW c (.fn 167 [] []) [a0, a1, v0] h fun _ h2 =>
some ((.tup []), h2)
theorem S168_eq (c : CV) (a0 a1 a2 : AV) (h : AH) : qg Tryz.prog NN P168 c 168 [a0, a1, a2] h = S168 c a0 a1 a2 h := by kernel_rfl
def W168 : WF := w_3 S168
theorem W168_ok : WOk Tryz.prog 168 W168 := jf (pl := P168) fun _ _ _ _ _ => by rw [S168_eq]
def P169 : Pl := .z
def S169 (c : CV) (a0 a1 a2 a3 : AV) (h : AH) : R :=
qZ h a1 fun v0 =>
qZ h a2 fun v1 =>
qW c (.fn 163 [] []) [a0, v0, v1] h fun v2 h3 =>
qB v2 0 fun v4 =>
qB v2 1 fun v5 =>
qZ h3 a2 fun v6 =>
qW c (.fn 165 [] []) [a0, v5, v6] h3 fun v7 h8 =>
qj v7 (
qq .add v5 (iI 1) fun v9 =>
qW c (.fn 170 [] []) [a0, v9] h8 fun v10 h11 =>
qW c (.fn 167 [] []) [a0, v4, v10] h11 fun _ h13 =>
qW c (.fn 171 [] []) [a0, v5] h13 fun _ h15 =>
qv h15 a3 (.bool true) 1 fun h16 =>
some ((.tup []), h16)) (
some ((.tup []), h8))
theorem S169_eq (c : CV) (a0 a1 a2 a3 : AV) (h : AH) : qg Tryz.prog NN P169 c 169 [a0, a1, a2, a3] h = S169 c a0 a1 a2 a3 h := by kernel_rfl
def W169 : WF := w_4 S169
theorem W169_ok : WOk Tryz.prog 169 W169 := yg (pl := P169) fun _ _ _ _ _ _ => by rw [S169_eq]
def P170 : Pl := .z
def S170 (c : CV) (a0 a1 : AV) (h : AH) : R :=
qW c (.fn 164 [] []) [a0] h fun v0 h1 =>
pUn .not v0 fun v2 =>
qj v2 (
some ((uU 0), h1)) (
qC a0 fun v3 =>
qJ v3 0 fun v4 =>
qZ h1 v4 fun v5 =>
qW c (.fn 109 [] []) [v5, a1] h1 fun v6 h7 =>
qB v6 0 fun v8 =>
qB v6 1 fun v9 =>
qW c (.fn 226 [] []) [a0, v9] h7 fun _ h11 =>
some (v8, h11))
theorem S170_eq (c : CV) (a0 a1 : AV) (h : AH) : qg Tryz.prog NN P170 c 170 [a0, a1] h = S170 c a0 a1 h := by kernel_rfl
def W170 : WF := w_2 S170
theorem W170_ok : WOk Tryz.prog 170 W170 := jg (pl := P170) fun _ _ _ _ => by rw [S170_eq]
def P171 : Pl := .z
def S171 (c : CV) (a0 a1 : AV) (h : AH) : R :=
qW c (.fn 164 [] []) [a0] h fun v0 h1 =>
qj v0 (
qC a0 fun v2 =>
qJ v2 0 fun v3 =>
qZ h1 v3 fun v4 =>
qW c (.fn 130 [] []) [v4, a1] h1 fun v5 h6 =>
qW c (.fn 226 [] []) [a0, v5] h6 fun _ h8 =>
some ((.tup []), h8)) (
some ((.tup []), h1))
theorem S171_eq (c : CV) (a0 a1 : AV) (h : AH) : qg Tryz.prog NN P171 c 171 [a0, a1] h = S171 c a0 a1 h := by kernel_rfl
def W171 : WF := w_2 S171
theorem W171_ok : WOk Tryz.prog 171 W171 := jg (pl := P171) fun _ _ _ _ => by rw [S171_eq]
def P172 : Pl := .z
def S172 (c : CV) (a0 a1 a2 a3 : AV) (h : AH) : R :=
qZ h a1 fun v0 =>
qZ h a2 fun v1 =>
qW c (.fn 163 [] []) [a0, v0, v1] h fun v2 h3 =>
qB v2 0 fun _ =>
qB v2 1 fun v5 =>
qZ h3 a2 fun v6 =>
qW c (.fn 165 [] []) [a0, v5, v6] h3 fun v7 h8 =>
qv h8 a3 v7 1 fun h9 =>
some ((.tup []), h9)
theorem S172_eq (c : CV) (a0 a1 a2 a3 : AV) (h : AH) : qg Tryz.prog NN P172 c 172 [a0, a1, a2, a3] h = S172 c a0 a1 a2 a3 h := by kernel_rfl
def W172 : WF := w_4 S172
theorem W172_ok : WOk Tryz.prog 172 W172 := yg (pl := P172) fun _ _ _ _ _ _ => by rw [S172_eq]
def P173 : Pl := (.n none .z (.n (some [6, 4, 3, 2, 0]) (.n none (.r [[20, 15, 6, 4, 3, 2, 1, 0]]) .z) (.n none .z (.n none .z (.n none .z (.n (some [7, 6, 4, 3, 2, 0]) (.n none (.r [[53, 43, 7, 6, 4, 3, 2, 0], [60, 55, 7, 6, 4, 3, 2, 0]]) .z) .z))))))
def S173 (c : CV) (a0 a1 a2 a3 a4 : AV) (h : AH) : R :=
qZ h a1 fun v0 =>
qW c (.fn 174 [] []) [a0, v0] h fun v1 h2 =>
qw (α := AV × AV × AV × AV × AV × Unit → AH → List Nat → R) (fun s3 h4 d5 =>
qW c (.fn 164 [] []) [s3.2.2.2.2.1] h4 fun v7 h8 =>
pUn .not v7 fun v9 =>
qj v9 (
qP d5 h8 fun h10 =>
some ((.tup []), h10)) (
qZ h8 s3.2.2.2.1 fun v11 =>
qW c (.fn 176 [] []) [s3.1, v11] h8 fun v12 h13 =>
qB v12 0 fun v14 =>
qB v12 1 fun v15 =>
qq .neq v15 (iI 0) fun v16 =>
qj v16 (
qq .add v15 (iI 1) fun v17 =>
qZ h13 s3.2.2.1 fun v18 =>
qW c (.fn 167 [] []) [s3.2.2.2.2.1, v17, v18] h13 fun _ h20 =>
qP d5 h20 fun h21 =>
some ((.tup []), h21)) (
qw (α := AV × AV × AV × AV × AV × AV × Unit → AH → List Nat → R) (fun s22 h23 d24 =>
qW c (.fn 166 [] []) [s22.2.2.2.2.2.1, (iI 3)] h23 fun v26 h27 =>
qq .add v26 (iI 0) fun v28 =>
qZ h27 s22.2.2.2.2.1 fun v29 =>
qW c (.fn 167 [] []) [s22.2.2.2.2.2.1, v28, v29] h27 fun _ h31 =>
qq .add v26 (iI 1) fun v32 =>
qZ h31 s22.2.2.2.1 fun v33 =>
qW c (.fn 167 [] []) [s22.2.2.2.2.2.1, v32, v33] h31 fun _ h35 =>
qq .add v26 (iI 2) fun v36 =>
qW c (.fn 168 [] []) [s22.2.2.2.2.2.1, v36, (iI 0)] h35 fun _ h38 =>
qW c (.fn 168 [] []) [s22.2.2.2.2.2.1, s22.1, v26] h38 fun _ h40 =>
qC s22.2.1 fun v41 =>
qJ v41 1 fun v42 =>
qZ h40 v42 fun v43 =>
qq .add v43 (iI 0) fun v44 =>
qC s22.2.1 fun v45 =>
qJ v45 4 fun v46 =>
qZ h40 v46 fun v47 =>
qq .add v47 (uU 1) fun v48 =>
qW c (.fn 167 [] []) [s22.2.2.2.2.2.1, v44, v48] h40 fun _ h50 =>
qv h50 s22.2.2.1 (.bool true) 1 fun h51 =>
qP d24 h51 fun h52 =>
some ((.tup []), h52)) fun j25 =>
qW c (.fn 164 [] []) [s3.2.2.2.2.1] h13 fun v53 h54 =>
qw (α := AV × AV × AV × AV × AV × AV × AV × AV × Unit → AH → R) (fun s55 h56 =>
qn s55.2.1 s55.1 (.bool false) fun v58 =>
qw (α := AV × AV × AV × AV × AV × AV × AV × AV × Unit → AH → R) (fun s59 h60 =>
qn s59.2.1 s59.1 (.bool false) fun v62 =>
qj v62 (
qW c (.fn 177 [] []) [s59.2.2.2.1] h60 fun _ h64 =>
qZ h64 s59.2.2.2.2.2.2.1 fun v65 =>
qW c (.fn 176 [] []) [s59.2.2.2.1, v65] h64 fun v66 h67 =>
qB v66 0 fun v68 =>
qB v66 1 fun _ =>
j25 (v68, s59.2.2.2.1, s59.2.2.2.2.1, s59.2.2.2.2.2.1, s59.2.2.2.2.2.2.1, s59.2.2.2.2.2.2.2.1, ()) h67 d5) (
j25 (s59.2.2.1, s59.2.2.2.1, s59.2.2.2.2.1, s59.2.2.2.2.2.1, s59.2.2.2.2.2.2.1, s59.2.2.2.2.2.2.2.1, ()) h60 d5)) fun j61 =>
qe v58 true (
qC s55.2.2.2.1 fun v70 =>
qJ v70 2 fun v71 =>
qZ h56 v71 fun v72 =>
qq .lss v72 (iI 16) fun v73 =>
j61 (v73, v58, s55.2.2.1, s55.2.2.2.1, s55.2.2.2.2.1, s55.2.2.2.2.2.1, s55.2.2.2.2.2.2.1, s55.2.2.2.2.2.2.2.1, ()) h56) (
j61 (.undef, v58, s55.2.2.1, s55.2.2.2.1, s55.2.2.2.2.1, s55.2.2.2.2.2.1, s55.2.2.2.2.2.2.1, s55.2.2.2.2.2.2.2.1, ()) h56)) fun j57 =>
qe v53 true (
qC s3.1 fun v74 =>
qJ v74 4 fun v75 =>
qZ h54 v75 fun v76 =>
qC s3.1 fun v77 =>
qJ v77 2 fun v78 =>
qZ h54 v78 fun v79 =>
jE .u64 v79 fun v80 =>
qq .geq v76 v80 fun v81 =>
j57 (v81, v53, v14, s3.1, s3.2.1, s3.2.2.1, s3.2.2.2.1, s3.2.2.2.2.1, ()) h54) (
j57 (.undef, v53, v14, s3.1, s3.2.1, s3.2.2.1, s3.2.2.2.1, s3.2.2.2.2.1, ()) h54)))) fun j6 =>
qW c (.fn 164 [] []) [a0] h2 fun v82 h83 =>
qw (α := AV × AV × AV × AV × AV × AV × AV × AV × Unit → AH → R) (fun s84 h85 =>
qn s84.2.1 s84.1 (.bool false) fun v87 =>
qj v87 (
qZ h85 s84.2.2.2.2.2.2.1 fun v88 =>
qW c (.fn 175 [] []) [s84.2.2.2.2.2.2.2.1, v88] h85 fun v89 h90 =>
j6 (v89, s84.2.2.2.1, s84.2.2.2.2.1, s84.2.2.2.2.2.1, s84.2.2.2.2.2.2.2.1, ()) h90 []) (
j6 (s84.2.2.1, s84.2.2.2.1, s84.2.2.2.2.1, s84.2.2.2.2.2.1, s84.2.2.2.2.2.2.2.1, ()) h85 [])) fun j86 =>
qe v82 true (
qC v1 fun v91 =>
qJ v91 1 fun v92 =>
qZ h83 v92 fun v93 =>
qq .eql v93 (iI 0) fun v94 =>
j86 (v94, v82, v1, a4, a3, a2, a1, a0, ()) h83) (
j86 (.undef, v82, v1, a4, a3, a2, a1, a0, ()) h83)
theorem S173_eq (c : CV) (a0 a1 a2 a3 a4 : AV) (h : AH) : qg Tryz.prog NN P173 c 173 [a0, a1, a2, a3, a4] h = S173 c a0 a1 a2 a3 a4 h := by kernel_rfl
def W173 : WF := w_5 S173
theorem W173_ok : WOk Tryz.prog 173 W173 := gn (pl := P173) fun _ _ _ _ _ _ _ => by rw [S173_eq]
def P174 : Pl := (.n none .z (.n none .z (.n none .z (.n none .z (.n none .z (.n (some [6, 5, 0]) (.n none (.r [[40, 38, 6, 5, 0], [47, 42, 6, 5, 0]]) .z) .z))))))
def S174 (c : CV) (a0 a1 : AV) (h : AH) : R :=
qW c (.fn 225 [] []) [a0, a1] h fun v0 h1 =>
qm [.nilp, (iI 0), (iI 0), (iI 0), (uU 0)] [(0, 1, a0), (1, 1, v0)] fun v2 =>
q9 h1 235 v2 fun v3 h4 =>
qC v3 fun v5 =>
qJ v5 1 fun v6 =>
qZ h4 v6 fun v7 =>
qq .eql v7 (iI 0) fun v8 =>
qj v8 (
some (v3, h4)) (
qC v3 fun v9 =>
qJ v9 1 fun v10 =>
qZ h4 v10 fun v11 =>
qq .add v11 (iI 0) fun v12 =>
qW c (.fn 170 [] []) [a0, v12] h4 fun v13 h14 =>
qC v3 fun v15 =>
qJ v15 4 fun v16 =>
qv h14 v16 v13 1 fun h17 =>
qC v3 fun v18 =>
qJ v18 1 fun v19 =>
qZ h17 v19 fun v20 =>
qq .add v20 (iI 1) fun v21 =>
qW c (.fn 170 [] []) [a0, v21] h17 fun v22 h23 =>
qw (α := AV × AV × AV × Unit → AH → List Nat → R) (fun s24 h25 d26 =>
jE .i64 s24.1 fun v28 =>
qC s24.2.1 fun v29 =>
qJ v29 1 fun v30 =>
qZ h25 v30 fun v31 =>
qq .add v31 (iI 2) fun v32 =>
qW c (.fn 225 [] []) [s24.2.2.1, v32] h25 fun v33 h34 =>
qC s24.2.1 fun v35 =>
qJ v35 2 fun v36 =>
qv h34 v36 v28 1 fun h37 =>
qC s24.2.1 fun v38 =>
qJ v38 3 fun v39 =>
qv h37 v39 v33 1 fun h40 =>
qP d26 h40 fun h41 =>
some (s24.2.1, h41)) fun j27 =>
qq .lss v22 (uU 2) fun v42 =>
qw (α := AV × AV × AV × AV × AV × Unit → AH → R) (fun s43 h44 =>
qn s43.2.1 (.bool true) s43.1 fun v46 =>
qw (α := AV × AV × AV × AV × AV × Unit → AH → R) (fun s47 h48 =>
qn s47.2.1 (.bool true) s47.1 fun v50 =>
qj v50 (
qW c (.fn 226 [] []) [s47.2.2.2.2.1, (iI 2)] h48 fun _ h52 =>
j27 ((uU 2), s47.2.2.2.1, s47.2.2.2.2.1, ()) h52 []) (
j27 (s47.2.2.1, s47.2.2.2.1, s47.2.2.2.2.1, ()) h48 [])) fun j49 =>
qe v46 false (
qq .sub s43.2.2.1 (uU 1) fun v53 =>
qq .and s43.2.2.1 v53 fun v54 =>
qq .neq v54 (uU 0) fun v55 =>
j49 (v55, v46, s43.2.2.1, s43.2.2.2.1, s43.2.2.2.2.1, ()) h44) (
j49 (.undef, v46, s43.2.2.1, s43.2.2.2.1, s43.2.2.2.2.1, ()) h44)) fun j45 =>
qe v42 false (
qq .gtr v22 (uU 16) fun v56 =>
j45 (v56, v42, v22, v3, a0, ()) h23) (
j45 (.undef, v42, v22, v3, a0, ()) h23))
theorem S174_eq (c : CV) (a0 a1 : AV) (h : AH) : qg Tryz.prog NN P174 c 174 [a0, a1] h = S174 c a0 a1 h := by kernel_rfl
def W174 : WF := w_2 S174
theorem W174_ok : WOk Tryz.prog 174 W174 := jg (pl := P174) fun _ _ _ _ => by rw [S174_eq]
def P175 : Pl := (.n none .z (.n none .z (.n none (.n none .z (.n none (.n (some [14, 5, 1, 0]) .z .z) .z)) .z)))
def S175 (c : CV) (a0 a1 : AV) (h : AH) : R :=
qW c (.fn 166 [] []) [a0, (iI 3)] h fun v0 h1 =>
qW c (.fn 166 [] []) [a0, (iI 2)] h1 fun v2 h3 =>
qm [.nilp, (iI 0), (iI 0), (iI 0), (uU 0)] [(0, 1, a0), (1, 1, v0), (2, 1, (iI 2)), (3, 1, v2)] fun v4 =>
q9 h3 235 v4 fun v5 h6 =>
jd (σ := AV × AV × AV × AV × Unit) NN (fun i10 s7 h8 d9 =>
qq .lss s7.1 (iI 2) fun v11 =>
qj v11 (
qC s7.2.1 fun v12 =>
qJ v12 3 fun v13 =>
qZ h8 v13 fun v14 =>
qq .add v14 s7.1 fun v15 =>
qW c (.fn 168 [] []) [s7.2.2.2.1, v15, (iI 0)] h8 fun _ h17 =>
qq .add s7.1 (iI 1) fun v18 =>
i10 (v18, s7.2.1, s7.2.2.1, s7.2.2.2.1, ()) h17 d9) (
qC s7.2.1 fun v19 =>
qJ v19 1 fun v20 =>
qZ h8 v20 fun v21 =>
qq .add v21 (iI 0) fun v22 =>
qW c (.fn 168 [] []) [s7.2.2.2.1, v22, (iI 0)] h8 fun _ h24 =>
qC s7.2.1 fun v25 =>
qJ v25 1 fun v26 =>
qZ h24 v26 fun v27 =>
qq .add v27 (iI 1) fun v28 =>
qW c (.fn 168 [] []) [s7.2.2.2.1, v28, (iI 2)] h24 fun _ h30 =>
qC s7.2.1 fun v31 =>
qJ v31 1 fun v32 =>
qZ h30 v32 fun v33 =>
qq .add v33 (iI 2) fun v34 =>
qC s7.2.1 fun v35 =>
qJ v35 3 fun v36 =>
qZ h30 v36 fun v37 =>
qW c (.fn 168 [] []) [s7.2.2.2.1, v34, v37] h30 fun _ h39 =>
qC s7.2.1 fun v40 =>
qJ v40 1 fun v41 =>
qZ h39 v41 fun v42 =>
qW c (.fn 168 [] []) [s7.2.2.2.1, s7.2.2.1, v42] h39 fun _ h44 =>
qP d9 h44 fun h45 =>
some (s7.2.1, h45))) ((iI 0), v5, a1, a0, ()) h6 []
theorem S175_eq (c : CV) (a0 a1 : AV) (h : AH) : qg Tryz.prog NN P175 c 175 [a0, a1] h = S175 c a0 a1 h := by kernel_rfl
def W175 : WF := w_2 S175
theorem W175_ok : WOk Tryz.prog 175 W175 := jg (pl := P175) fun _ _ _ _ => by rw [S175_eq]
def P176 : Pl := (.n none .z (.n none (.r [[4, 1, 0]]) (.n none (.n none (.n (some [4, 1, 0]) (.n none .z (.n none (.n none .z (.n none (.n none (.r [[39, 30, 5, 4, 1, 0]]) .z) .z)) .z)) .z) .z) .z)))
def S176 (c : CV) (a0 a1 : AV) (h : AH) : R :=
qw (α := AV × AV × AV × Unit → AH → R) (fun s0 h1 =>
jd (σ := AV × AV × AV × Unit) NN (fun i6 s3 h4 d5 =>
qC s3.2.2.1 fun v7 =>
qJ v7 0 fun v8 =>
qZ h4 v8 fun v9 =>
qW c (.fn 224 [] []) [v9] h4 fun v10 h11 =>
qj v10 (
qC s3.2.2.1 fun v12 =>
qJ v12 0 fun v13 =>
qZ h11 v13 fun v14 =>
qW c (.fn 225 [] []) [v14, s3.1] h11 fun v15 h16 =>
qq .eql v15 (iI 0) fun v17 =>
qw (α := AV × AV × AV × AV × AV × AV × Unit → AH → R) (fun s18 h19 =>
qn s18.2.1 (.bool true) s18.1 fun v21 =>
qj v21 (
qP d5 h19 fun h22 =>
some ((.tup [s18.2.2.2.1, s18.2.2.1]), h22)) (
qq .add s18.2.2.1 (iI 2) fun v23 =>
i6 (v23, s18.2.2.2.2.1, s18.2.2.2.2.2.1, ()) h19 d5)) fun j20 =>
qe v17 false (
qC s3.2.2.1 fun v24 =>
qJ v24 0 fun v25 =>
qZ h16 v25 fun v26 =>
qq .add v15 (iI 0) fun v27 =>
qW c (.fn 170 [] []) [v26, v27] h16 fun v28 h29 =>
qq .eql v28 s3.2.1 fun v30 =>
j20 (v30, v17, v15, s3.1, s3.2.1, s3.2.2.1, ()) h29) (
j20 (.undef, v17, v15, s3.1, s3.2.1, s3.2.2.1, ()) h16)) (
qP d5 h11 fun h31 =>
some ((.tup [s3.1, (iI 0)]), h31))) (s0.1, s0.2.1, s0.2.2.1, ()) h1 []) fun j2 =>
qC a0 fun v32 =>
qJ v32 3 fun v33 =>
qZ h v33 fun v34 =>
qC a0 fun v35 =>
qJ v35 2 fun v36 =>
qZ h v36 fun v37 =>
qW c (.fn 227 [] []) [a1, v37] h fun v38 h39 =>
qq .add v34 v38 fun v40 =>
zQ v33 none v34 h h39 h.nx <|
j2 (v40, a1, a0, ()) h39
theorem S176_eq (c : CV) (a0 a1 : AV) (h : AH) : qg Tryz.prog NN P176 c 176 [a0, a1] h = S176 c a0 a1 h := by kernel_rfl
def W176 : WF := w_2 S176
theorem W176_ok : WOk Tryz.prog 176 W176 := jg (pl := P176) fun _ _ _ _ => by rw [S176_eq]
def P177 : Pl := (.n none .z (.n none .z (.n none .z (.n none .z (.n none .z (.n none (.n none .z (.n none (.n (some [25, 24, 23, 4, 2, 1]) .z .z) .z)) (.n none .z (.n none (.r [[4, 2, 1]]) .z))))))))
def S177 (c : CV) (a0 : AV) (h : AH) : R :=
q9 h 232 a0 fun v0 h1 =>
qZ h1 v0 fun v2 =>
qC v2 fun v3 =>
qJ v3 2 fun v4 =>
qZ h1 v4 fun v5 =>
qq .mul (iI 2) v5 fun v6 =>
q9 h1 3 (iI 0) fun v7 h8 =>
qv h8 v7 v6 1 fun h9 =>
qZ h9 v7 fun v10 =>
yJ h9 3 [(iI 0)] v10 v10 fun v11 h12 =>
q9 h12 59 .nils fun v13 h14 =>
qv h14 v13 v11 1 fun h15 =>
qZ h15 v0 fun v16 =>
qC v16 fun v17 =>
qJ v17 0 fun v18 =>
qZ h15 v18 fun v19 =>
qZ h15 v7 fun v20 =>
qW c (.fn 166 [] []) [v19, v20] h15 fun v21 h22 =>
qZ h22 v0 fun v23 =>
qW c (.fn 228 [] []) [v23, (.fn 229 [] [v0, v7, v13])] h22 fun _ h25 =>
qZ h25 v13 fun v26 =>
qr v26 fun v27 =>
jd (σ := AV × AV × AV × AV × AV × AV × Unit) NN (fun i31 s28 h29 d30 =>
qq .lss s28.1 s28.2.1 fun v32 =>
qj v32 (
jK s28.2.2.1 s28.1 1 fun v33 =>
qZ h29 v33 fun v34 =>
qZ h29 s28.2.2.2.2.2.1 fun v35 =>
qC v35 fun v36 =>
qJ v36 0 fun v37 =>
qZ h29 v37 fun v38 =>
qq .add s28.2.2.2.1 s28.1 fun v39 =>
qW c (.fn 168 [] []) [v38, v39, v34] h29 fun _ h41 =>
qq .add s28.1 (iI 1) fun v42 =>
i31 (v42, s28.2.1, s28.2.2.1, s28.2.2.2.1, s28.2.2.2.2.1, s28.2.2.2.2.2.1, ()) h41 d30) (
qZ h29 s28.2.2.2.2.2.1 fun v43 =>
qC v43 fun v44 =>
qJ v44 0 fun v45 =>
qZ h29 v45 fun v46 =>
qZ h29 s28.2.2.2.2.2.1 fun v47 =>
qC v47 fun v48 =>
qJ v48 3 fun v49 =>
qZ h29 v49 fun v50 =>
qW c (.fn 171 [] []) [v46, v50] h29 fun _ h52 =>
qw (α := AV × AV × AV × Unit → AH → R) (fun s53 h54 =>
qZ h54 s53.2.2.1 fun v56 =>
qC v56 fun v57 =>
qJ v57 0 fun v58 =>
qZ h54 v58 fun v59 =>
qZ h54 s53.2.2.1 fun v60 =>
qC v60 fun v61 =>
qJ v61 1 fun v62 =>
qZ h54 v62 fun v63 =>
qq .add v63 (iI 1) fun v64 =>
qZ h54 s53.2.1 fun v65 =>
qW c (.fn 168 [] []) [v59, v64, v65] h54 fun _ h67 =>
qZ h67 s53.2.2.1 fun v68 =>
qC v68 fun v69 =>
qJ v69 0 fun v70 =>
qZ h67 v70 fun v71 =>
qZ h67 s53.2.2.1 fun v72 =>
qC v72 fun v73 =>
qJ v73 1 fun v74 =>
qZ h67 v74 fun v75 =>
qq .add v75 (iI 2) fun v76 =>
qW c (.fn 168 [] []) [v71, v76, s53.1] h67 fun _ h78 =>
qP d30 h78 fun h79 =>
some ((.tup []), h79)) fun j55 =>
qZ h52 s28.2.2.2.2.2.1 fun v80 =>
qZ h52 s28.2.2.2.2.2.1 fun v81 =>
qZ h52 s28.2.2.2.2.1 fun v82 =>
qC v80 fun v83 =>
qJ v83 2 fun v84 =>
qv h52 v84 v82 1 fun h85 =>
qC v81 fun v86 =>
qJ v86 3 fun v87 =>
qv h85 v87 s28.2.2.2.1 1 fun h88 =>
zQ s28.2.2.2.2.2.1 none v81 h52 h85 h52.nx <|
j55 (s28.2.2.2.1, s28.2.2.2.2.1, s28.2.2.2.2.2.1, ()) h88)) ((iI 0), v27, v26, v21, v7, v0, ()) h25 []
theorem S177_eq (c : CV) (a0 : AV) (h : AH) : qg Tryz.prog NN P177 c 177 [a0] h = S177 c a0 h := by kernel_rfl
def W177 : WF := w_1 S177
theorem W177_ok : WOk Tryz.prog 177 W177 := jY (pl := P177) fun _ _ _ => by rw [S177_eq]
def P178 : Pl := (.n none .z (.n none .z (.n none (.n none (.r [[20, 13, 4, 3, 1, 0], [25, 22, 4, 3, 0], [31, 25, 22, 4, 3, 0], [32, 22, 4, 3, 0]]) .z) .z)))
def S178 (c : CV) (a0 a1 a2 a3 a4 : AV) (h : AH) : R :=
qq .neq a2 (iI 0) fun v0 =>
qj v0 (
some (a2, h)) (
qw (α := AV × AV × AV × AV × AV × AV × Unit → AH → R) (fun s1 h2 =>
qn s1.2.1 s1.1 (.bool false) fun v4 =>
qw (α := AV × AV × AV × AV × AV × Unit → AH → R) (fun s5 h6 =>
qw (α := AV × AV × AV × AV × AV × AV × Unit → AH → R) (fun s8 h9 =>
qw (α := AV × AV × AV × AV × AV × Unit → AH → R) (fun s11 h12 =>
qn s11.2.1 (.bool true) s11.1 fun v14 =>
qj v14 (
some ((iI 5), h12)) (
qZ h12 s11.2.2.2.1 fun v15 =>
qJ s11.2.2.1 3 fun v16 =>
qZ h12 v16 fun v17 =>
qC v15 fun v18 =>
qJ v18 6 fun v19 =>
yH v19 v17 8 1 fun v20 =>
qv h12 v20 s11.2.2.2.2.1 1 fun h21 =>
some ((iI 0), h21))) fun j13 =>
qe s8.2.2.1 false (
qn s8.2.1 s8.1 (.bool false) fun v22 =>
j13 (v22, s8.2.2.1, s8.2.2.2.1, s8.2.2.2.2.1, s8.2.2.2.2.2.1, ()) h9) (
j13 (.undef, s8.2.2.1, s8.2.2.2.1, s8.2.2.2.2.1, s8.2.2.2.2.2.1, ()) h9)) fun j10 =>
qe s5.1 true (
qZ h6 s5.2.2.2.1 fun v23 =>
qC v23 fun v24 =>
qJ v24 14 fun v25 =>
qZ h6 v25 fun v26 =>
qW c (.fn 179 [] []) [v26] h6 fun v27 h28 =>
pUn .not v27 fun v29 =>
j10 (v29, s5.1, s5.2.1, s5.2.2.1, s5.2.2.2.1, s5.2.2.2.2.1, ()) h28) (
j10 (.undef, s5.1, s5.2.1, s5.2.2.1, s5.2.2.2.1, s5.2.2.2.2.1, ()) h6)) fun j7 =>
qe v4 false (
pUn .not s1.2.2.2.2.1 fun v30 =>
j7 (v30, v4, s1.2.2.1, s1.2.2.2.1, s1.2.2.2.2.2.1, ()) h2) (
j7 (.undef, v4, s1.2.2.1, s1.2.2.2.1, s1.2.2.2.2.2.1, ()) h2)) fun j3 =>
qe a1 true (
qZ h a3 fun v31 =>
qC v31 fun v32 =>
qJ v32 14 fun v33 =>
qZ h v33 fun v34 =>
qW c (.fn 84 [] []) [v34, a0] h fun v35 h36 =>
pUn .not v35 fun v37 =>
j3 (v37, a1, a4, a3, a1, a0, ()) h36) (
j3 (.undef, a1, a4, a3, a1, a0, ()) h))
theorem S178_eq (c : CV) (a0 a1 a2 a3 a4 : AV) (h : AH) : qg Tryz.prog NN P178 c 178 [a0, a1, a2, a3, a4] h = S178 c a0 a1 a2 a3 a4 h := by kernel_rfl
def W178 : WF := w_5 S178
theorem W178_ok : WOk Tryz.prog 178 W178 := gn (pl := P178) fun _ _ _ _ _ _ _ => by rw [S178_eq]
def P179 : Pl := .z
def S179 (c : CV) (a0 : AV) (h : AH) : R :=
qm [] [] fun v0 =>
qW c (.fn 112 [] []) [a0, (.iface 263 v0)] h fun v1 h2 =>
some (v1, h2)
theorem S179_eq (c : CV) (a0 : AV) (h : AH) : qg Tryz.prog NN P179 c 179 [a0] h = S179 c a0 h := by kernel_rfl
def W179 : WF := w_1 S179
theorem W179_ok : WOk Tryz.prog 179 W179 := jY (pl := P179) fun _ _ _ => by rw [S179_eq]
def P180 : Pl := (.n none .z (.n none (.n none (.r [[20, 15, 6, 4, 3, 2, 0]]) .z) .z))
def S180 (c : CV) (a0 a1 a2 a3 a4 : AV) (h : AH) : R :=
qZ h a1 fun v0 =>
qW c (.fn 174 [] []) [a0, v0] h fun v1 h2 =>
qW c (.fn 164 [] []) [a0] h2 fun v3 h4 =>
pUn .not v3 fun v5 =>
qw (α := AV × AV × AV × AV × AV × AV × AV × Unit → AH → R) (fun s6 h7 =>
qn s6.2.1 (.bool true) s6.1 fun v9 =>
qj v9 (
some ((.tup []), h7)) (
qZ h7 s6.2.2.2.2.2.1 fun v10 =>
qW c (.fn 176 [] []) [s6.2.2.1, v10] h7 fun v11 h12 =>
qB v11 0 fun _ =>
qB v11 1 fun v14 =>
qq .neq v14 (iI 0) fun v15 =>
qj v15 (
qq .add v14 (iI 1) fun v16 =>
qW c (.fn 170 [] []) [s6.2.2.2.2.2.2.1, v16] h12 fun v17 h18 =>
qv h18 s6.2.2.2.2.1 v17 1 fun h19 =>
qv h19 s6.2.2.2.1 (.bool true) 1 fun h20 =>
some ((.tup []), h20)) (
some ((.tup []), h12)))) fun j8 =>
qe v5 false (
qC v1 fun v21 =>
qJ v21 1 fun v22 =>
qZ h4 v22 fun v23 =>
qq .eql v23 (iI 0) fun v24 =>
j8 (v24, v5, v1, a4, a3, a2, a0, ()) h4) (
j8 (.undef, v5, v1, a4, a3, a2, a0, ()) h4)
theorem S180_eq (c : CV) (a0 a1 a2 a3 a4 : AV) (h : AH) : qg Tryz.prog NN P180 c 180 [a0, a1, a2, a3, a4] h = S180 c a0 a1 a2 a3 a4 h := by kernel_rfl
def W180 : WF := w_5 S180
theorem W180_ok : WOk Tryz.prog 180 W180 := gn (pl := P180) fun _ _ _ _ _ _ _ => by rw [S180_eq]
def P181 : Pl := (.n none .z (.n none (.n none (.r [[19, 14, 5, 3, 2, 0]]) .z) .z))
def S181 (c : CV) (a0 a1 a2 a3 : AV) (h : AH) : R :=
qZ h a1 fun v0 =>
qW c (.fn 174 [] []) [a0, v0] h fun v1 h2 =>
qW c (.fn 164 [] []) [a0] h2 fun v3 h4 =>
pUn .not v3 fun v5 =>
qw (α := AV × AV × AV × AV × AV × AV × Unit → AH → R) (fun s6 h7 =>
qn s6.2.1 (.bool true) s6.1 fun v9 =>
qj v9 (
some ((.tup []), h7)) (
qZ h7 s6.2.2.2.2.1 fun v10 =>
qW c (.fn 176 [] []) [s6.2.2.1, v10] h7 fun v11 h12 =>
qB v11 0 fun v13 =>
qB v11 1 fun v14 =>
qq .neq v14 (iI 0) fun v15 =>
qj v15 (
qq .add v14 (iI 2) fun v16 =>
qW c (.fn 170 [] []) [s6.2.2.2.2.2.1, v16] h12 fun v17 h18 =>
qW c (.fn 167 [] []) [s6.2.2.2.2.2.1, v13, v17] h18 fun _ h20 =>
qC s6.2.2.1 fun v21 =>
qJ v21 1 fun v22 =>
qZ h20 v22 fun v23 =>
qq .add v23 (iI 0) fun v24 =>
qC s6.2.2.1 fun v25 =>
qJ v25 4 fun v26 =>
qZ h20 v26 fun v27 =>
qq .sub v27 (uU 1) fun v28 =>
qW c (.fn 167 [] []) [s6.2.2.2.2.2.1, v24, v28] h20 fun _ h30 =>
qW c (.fn 171 [] []) [s6.2.2.2.2.2.1, v14] h30 fun _ h32 =>
qv h32 s6.2.2.2.1 (.bool true) 1 fun h33 =>
some ((.tup []), h33)) (
some ((.tup []), h12)))) fun j8 =>
qe v5 false (
qC v1 fun v34 =>
qJ v34 1 fun v35 =>
qZ h4 v35 fun v36 =>
qq .eql v36 (iI 0) fun v37 =>
j8 (v37, v5, v1, a3, a2, a0, ()) h4) (
j8 (.undef, v5, v1, a3, a2, a0, ()) h4)
theorem S181_eq (c : CV) (a0 a1 a2 a3 : AV) (h : AH) : qg Tryz.prog NN P181 c 181 [a0, a1, a2, a3] h = S181 c a0 a1 a2 a3 h := by kernel_rfl
def W181 : WF := w_4 S181
theorem W181_ok : WOk Tryz.prog 181 W181 := yg (pl := P181) fun _ _ _ _ _ _ => by rw [S181_eq]
def P182 : Pl := .z
def S182 (c : CV) (a0 a1 a2 : AV) (h : AH) : R :=
q9 h 3 a1 fun v0 h1 =>
q9 h1 26 a2 fun v2 h3 =>
qZ h3 v0 fun v4 =>
qW c (.fn 161 [] []) [a0, v4, (.fn 230 [] [v0, v2])] h3 fun v5 h6 =>
some (v5, h6)
theorem S182_eq (c : CV) (a0 a1 a2 : AV) (h : AH) : qg Tryz.prog NN P182 c 182 [a0, a1, a2] h = S182 c a0 a1 a2 h := by kernel_rfl
def W182 : WF := w_3 S182
theorem W182_ok : WOk Tryz.prog 182 W182 := jf (pl := P182) fun _ _ _ _ _ => by rw [S182_eq]
def P183 : Pl := .z
def S183 (c : CV) (a0 a1 : AV) (h : AH) : R :=
q9 h 3 a1 fun v0 h1 =>
q9 h1 26 (uU 0) fun v2 h3 =>
q9 h3 4 (.bool false) fun v4 h5 =>
qv h5 v2 (uU 0) 1 fun h6 =>
qv h6 v4 (.bool false) 1 fun h7 =>
qZ h7 v0 fun v8 =>
qW c (.fn 161 [] []) [a0, v8, (.fn 231 [] [v0, v2, v4])] h7 fun v9 h10 =>
qq .neq v9 (iI 0) fun v11 =>
qj v11 (
some ((.tup [(uU 0), (.bool false), v9]), h10)) (
qZ h10 v2 fun v12 =>
qZ h10 v4 fun v13 =>
some ((.tup [v12, v13, (iI 0)]), h10))
theorem S183_eq (c : CV) (a0 a1 : AV) (h : AH) : qg Tryz.prog NN P183 c 183 [a0, a1] h = S183 c a0 a1 h := by kernel_rfl
def W183 : WF := w_2 S183
theorem W183_ok : WOk Tryz.prog 183 W183 := jg (pl := P183) fun _ _ _ _ => by rw [S183_eq]
def P184 : Pl := .z
def S184 (c : CV) (a0 a1 a2 a3 a4 : AV) (h : AH) : R :=
qZ h a1 fun v0 =>
qm [.nilp, (iI 0), .nils] [(0, 1, a0), (1, 1, v0)] fun v1 =>
q9 h 242 v1 fun v2 h3 =>
qZ h3 a2 fun v4 =>
qW c (.fn 185 [] []) [v2, v4] h3 fun v5 h6 =>
qW c (.fn 164 [] []) [a0] h6 fun v7 h8 =>
pUn .not v7 fun v9 =>
qj v9 (
some ((.tup []), h8)) (
qq .neq v5 (iI 0) fun v10 =>
qj v10 (
qq .add v5 (iI 1) fun v11 =>
qZ h8 a3 fun v12 =>
qW c (.fn 167 [] []) [a0, v11, v12] h8 fun _ h14 =>
some ((.tup []), h14)) (
qW c (.fn 166 [] []) [a0, (iI 4)] h8 fun v15 h16 =>
qq .add v15 (iI 0) fun v17 =>
qZ h16 a2 fun v18 =>
qW c (.fn 167 [] []) [a0, v17, v18] h16 fun _ h20 =>
qq .add v15 (iI 1) fun v21 =>
qZ h20 a3 fun v22 =>
qW c (.fn 167 [] []) [a0, v21, v22] h20 fun _ h24 =>
qq .add v15 (iI 2) fun v25 =>
qW c (.fn 167 [] []) [a0, v25, (uU 1)] h24 fun _ h27 =>
qq .add v15 (iI 3) fun v28 =>
qW c (.fn 168 [] []) [a0, v28, (iI 0)] h27 fun _ h30 =>
qC v2 fun v31 =>
qJ v31 2 fun v32 =>
qZ h30 v32 fun v33 =>
qr v33 fun v34 =>
qW c (.fn 186 [] []) [v2, v34, v15] h30 fun _ h36 =>
qW c (.fn 187 [] []) [v2] h36 fun _ h38 =>
qv h38 a4 (.bool true) 1 fun h39 =>
some ((.tup []), h39)))
theorem S184_eq (c : CV) (a0 a1 a2 a3 a4 : AV) (h : AH) : qg Tryz.prog NN P184 c 184 [a0, a1, a2, a3, a4] h = S184 c a0 a1 a2 a3 a4 h := by kernel_rfl
def W184 : WF := w_5 S184
theorem W184_ok : WOk Tryz.prog 184 W184 := gn (pl := P184) fun _ _ _ _ _ _ _ => by rw [S184_eq]
def P185 : Pl := (.n none .z (.n none .z (.n none (.n none .z (.n none (.n (some [5, 1, 0]) (.n none (.n none (.r [[20, 15, 5, 1, 0]]) .z) (.n none (.n none .z (.n none .z (.n none .z (.n (some [7, 5, 1, 0]) .z .z)))) .z)) .z) .z)) .z)))
def S185 (c : CV) (a0 a1 : AV) (h : AH) : R :=
qC a0 fun v0 =>
qJ v0 2 fun v1 =>
qv h v1 .nils 1 fun h2 =>
qW c (.fn 193 [] []) [a0] h2 fun v3 h4 =>
jd (σ := AV × AV × AV × Unit) NN (fun i8 s5 h6 d7 =>
qq .neq s5.1 (iI 0) fun v9 =>
qw (α := AV × AV × AV × AV × AV × Unit → AH → R) (fun s10 h11 =>
qn s10.2.1 s10.1 (.bool false) fun v13 =>
qj v13 (
qC s10.2.2.2.2.1 fun v14 =>
qJ v14 0 fun v15 =>
qZ h11 v15 fun v16 =>
qq .add s10.2.2.1 (iI 0) fun v17 =>
qW c (.fn 170 [] []) [v16, v17] h11 fun v18 h19 =>
qq .eql v18 s10.2.2.2.1 fun v20 =>
qj v20 (
qP d7 h19 fun h21 =>
some (s10.2.2.1, h21)) (
qw (α := AV × AV × AV × AV × Unit → AH → List Nat → R) (fun s22 h23 d24 =>
qC s22.2.2.2.1 fun v26 =>
qJ v26 2 fun v27 =>
qZ h23 v27 fun v28 =>
qm [(iI 0), (iI 0)] [(0, 1, s22.2.1), (1, 1, s22.1)] fun v29 =>
q8 h23 265 [(iI 0), (iI 0)] 1 [(0, 2, v29)] fun v30 h31 =>
jX h31 265 2 v28 v30 fun v32 h33 =>
qC s22.2.2.2.1 fun v34 =>
qJ v34 2 fun v35 =>
qv h33 v35 v32 1 fun h36 =>
qW c (.fn 232 [] []) [s22.2.2.2.1, s22.2.1, s22.1] h36 fun v37 h38 =>
i8 (v37, s22.2.2.1, s22.2.2.2.1, ()) h38 d24) fun j25 =>
qq .gtr s10.2.2.2.1 v18 fun v39 =>
qj v39 (
j25 ((iI 1), s10.2.2.1, s10.2.2.2.1, s10.2.2.2.2.1, ()) h19 d7) (
j25 ((iI 0), s10.2.2.1, s10.2.2.2.1, s10.2.2.2.2.1, ()) h19 d7))) (
qP d7 h11 fun h40 =>
some ((iI 0), h40))) fun j12 =>
qe v9 true (
qC s5.2.2.1 fun v41 =>
qJ v41 0 fun v42 =>
qZ h6 v42 fun v43 =>
qW c (.fn 224 [] []) [v43] h6 fun v44 h45 =>
j12 (v44, v9, s5.1, s5.2.1, s5.2.2.1, ()) h45) (
j12 (.undef, v9, s5.1, s5.2.1, s5.2.2.1, ()) h6)) (v3, a1, a0, ()) h4 []
theorem S185_eq (c : CV) (a0 a1 : AV) (h : AH) : qg Tryz.prog NN P185 c 185 [a0, a1] h = S185 c a0 a1 h := by kernel_rfl
def W185 : WF := w_2 S185
theorem W185_ok : WOk Tryz.prog 185 W185 := jg (pl := P185) fun _ _ _ _ => by rw [S185_eq]
def P186 : Pl := .z
def S186 (c : CV) (a0 a1 a2 : AV) (h : AH) : R :=
qq .eql a1 (iI 0) fun v0 =>
qj v0 (
qC a0 fun v1 =>
qJ v1 0 fun v2 =>
qZ h v2 fun v3 =>
qC a0 fun v4 =>
qJ v4 1 fun v5 =>
qZ h v5 fun v6 =>
qW c (.fn 168 [] []) [v3, v6, a2] h fun _ h8 =>
some ((.tup []), h8)) (
qC a0 fun v9 =>
qJ v9 2 fun v10 =>
qZ h v10 fun v11 =>
qq .sub a1 (iI 1) fun v12 =>
jK v11 v12 2 fun v13 =>
qJ v13 0 fun v14 =>
qZ h v14 fun v15 =>
qC a0 fun v16 =>
qJ v16 2 fun v17 =>
qZ h v17 fun v18 =>
qq .sub a1 (iI 1) fun v19 =>
jK v18 v19 2 fun v20 =>
qJ v20 1 fun v21 =>
qZ h v21 fun v22 =>
qW c (.fn 233 [] []) [a0, v15, v22, a2] h fun _ h24 =>
some ((.tup []), h24))
theorem S186_eq (c : CV) (a0 a1 a2 : AV) (h : AH) : qg Tryz.prog NN P186 c 186 [a0, a1, a2] h = S186 c a0 a1 a2 h := by kernel_rfl
def W186 : WF := w_3 S186
theorem W186_ok : WOk Tryz.prog 186 W186 := jf (pl := P186) fun _ _ _ _ _ => by rw [S186_eq]
def P187 : Pl := (.n none (.n none (.n (some [0]) (.n none (.n none (.r [[17, 12, 0]]) .z) (.n none (.n none .z (.n none (.r [[4, 3, 2, 0]]) .z)) .z)) .z) .z) (.n none (.r [[92, 87, 0]]) .z))
def S187 (c : CV) (a0 : AV) (h : AH) : R :=
jd (σ := AV × Unit) NN (fun i3 s0 h1 d2 =>
qC s0.1 fun v4 =>
qJ v4 2 fun v5 =>
qZ h1 v5 fun v6 =>
qr v6 fun v7 =>
qq .geq v7 (iI 2) fun v8 =>
qw (α := AV × AV × AV × Unit → AH → R) (fun s9 h10 =>
qn s9.2.1 s9.1 (.bool false) fun v12 =>
qj v12 (
qC s9.2.2.1 fun v13 =>
qJ v13 2 fun v14 =>
qZ h10 v14 fun v15 =>
qr v15 fun v16 =>
qw (α := AV × AV × AV × AV × Unit → AH → R) (fun s17 h18 =>
qJ s17.2.1 0 fun v20 =>
qZ h18 v20 fun v21 =>
qW c (.fn 234 [] []) [s17.2.2.2.1, v21] h18 fun v22 h23 =>
pUn .not v22 fun v24 =>
qj v24 (
qP d2 h23 fun h25 =>
some ((.tup []), h25)) (
qJ s17.1 0 fun v26 =>
qZ h23 v26 fun v27 =>
qJ s17.1 1 fun v28 =>
qZ h23 v28 fun v29 =>
qq .sub (iI 1) v29 fun v30 =>
qW c (.fn 232 [] []) [s17.2.2.2.1, v27, v30] h23 fun v31 h32 =>
qW c (.fn 234 [] []) [s17.2.2.2.1, v31] h32 fun v33 h34 =>
pUn .not v33 fun v35 =>
qj v35 (
qT h34 s17.2.1 2 fun v36 =>
qT h34 s17.1 2 fun v37 =>
qW c (.fn 235 [] []) [s17.2.2.2.1, v36, v37] h34 fun _ h39 =>
qP d2 h39 fun h40 =>
some ((.tup []), h40)) (
qJ s17.2.1 0 fun v41 =>
qZ h34 v41 fun v42 =>
qW c (.fn 236 [] []) [s17.2.2.2.1, v42, (.bool false)] h34 fun _ h44 =>
qW c (.fn 236 [] []) [s17.2.2.2.1, v31, (.bool false)] h44 fun _ h46 =>
qJ s17.1 0 fun v47 =>
qZ h46 v47 fun v48 =>
qW c (.fn 236 [] []) [s17.2.2.2.1, v48, (.bool true)] h46 fun _ h50 =>
qC s17.2.2.2.1 fun v51 =>
qJ v51 2 fun v52 =>
qZ h50 v52 fun v53 =>
qq .sub s17.2.2.1 (iI 2) fun v54 =>
ju h50 265 2 v53 none (some v54) fun v55 =>
qC s17.2.2.2.1 fun v56 =>
qJ v56 2 fun v57 =>
qv h50 v57 v55 1 fun h58 =>
i3 (s17.2.2.2.1, ()) h58 d2))) fun j19 =>
qC s9.2.2.1 fun v59 =>
qJ v59 2 fun v60 =>
qZ h10 v60 fun v61 =>
qq .sub v16 (iI 1) fun v62 =>
jK v61 v62 2 fun v63 =>
qT h10 v63 2 fun v64 =>
qC s9.2.2.1 fun v65 =>
qJ v65 2 fun v66 =>
qZ h10 v66 fun v67 =>
qq .sub v16 (iI 2) fun v68 =>
jK v67 v68 2 fun v69 =>
qT h10 v69 2 fun v70 =>
q9 h10 265 (.agg [(iI 0), (iI 0)]) fun v71 h72 =>
q9 h72 265 (.agg [(iI 0), (iI 0)]) fun v73 h74 =>
qv h74 v71 v64 2 fun h75 =>
qv h75 v73 v70 2 fun h76 =>
zQ v69 (some 2) v70 h74 h75 h10.nx <|
zQ v66 none v67 h74 h75 h10.nx <|
j19 (v73, v71, v16, s9.2.2.1, ()) h76) (
qC s9.2.2.1 fun v77 =>
qJ v77 2 fun v78 =>
qZ h10 v78 fun v79 =>
qr v79 fun v80 =>
qq .lss v80 (iI 2) fun v81 =>
qw (α := AV × AV × AV × Unit → AH → R) (fun s82 h83 =>
qn s82.2.1 s82.1 (.bool false) fun v85 =>
qj v85 (
qW c (.fn 193 [] []) [s82.2.2.1] h83 fun v86 h87 =>
qW c (.fn 236 [] []) [s82.2.2.1, v86, (.bool false)] h87 fun _ h89 =>
qP d2 h89 fun h90 =>
some ((.tup []), h90)) (
qP d2 h83 fun h91 =>
some ((.tup []), h91))) fun j84 =>
qe v81 true (
qC s9.2.2.1 fun v92 =>
qJ v92 0 fun v93 =>
qZ h10 v93 fun v94 =>
qW c (.fn 164 [] []) [v94] h10 fun v95 h96 =>
j84 (v95, v81, s9.2.2.1, ()) h96) (
j84 (.undef, v81, s9.2.2.1, ()) h10))) fun j11 =>
qe v8 true (
qC s0.1 fun v97 =>
qJ v97 0 fun v98 =>
qZ h1 v98 fun v99 =>
qW c (.fn 224 [] []) [v99] h1 fun v100 h101 =>
j11 (v100, v8, s0.1, ()) h101) (
j11 (.undef, v8, s0.1, ()) h1)) (a0, ()) h []
theorem S187_eq (c : CV) (a0 : AV) (h : AH) : qg Tryz.prog NN P187 c 187 [a0] h = S187 c a0 h := by kernel_rfl
def W187 : WF := w_1 S187
theorem W187_ok : WOk Tryz.prog 187 W187 := jY (pl := P187) fun _ _ _ => by rw [S187_eq]
def P188 : Pl := .z
def S188 (c : CV) (a0 a1 a2 a3 a4 : AV) (h : AH) : R :=
qZ h a1 fun v0 =>
qm [.nilp, (iI 0), .nils] [(0, 1, a0), (1, 1, v0)] fun v1 =>
q9 h 242 v1 fun v2 h3 =>
qZ h3 a2 fun v4 =>
qW c (.fn 185 [] []) [v2, v4] h3 fun v5 h6 =>
qq .neq v5 (iI 0) fun v7 =>
qj v7 (
qq .add v5 (iI 1) fun v8 =>
qW c (.fn 170 [] []) [a0, v8] h6 fun v9 h10 =>
qv h10 a3 v9 1 fun h11 =>
qv h11 a4 (.bool true) 1 fun h12 =>
some ((.tup []), h12)) (
some ((.tup []), h6))
theorem S188_eq (c : CV) (a0 a1 a2 a3 a4 : AV) (h : AH) : qg Tryz.prog NN P188 c 188 [a0, a1, a2, a3, a4] h = S188 c a0 a1 a2 a3 a4 h := by kernel_rfl
def W188 : WF := w_5 S188
theorem W188_ok : WOk Tryz.prog 188 W188 := gn (pl := P188) fun _ _ _ _ _ _ _ => by rw [S188_eq]
def P189 : Pl := (.n none .z (.n none .z (.n none (.r [[18, 16, 6, 5, 3]]) .z)))
def S189 (c : CV) (a0 a1 a2 a3 : AV) (h : AH) : R :=
qZ h a1 fun v0 =>
qm [.nilp, (iI 0), .nils] [(0, 1, a0), (1, 1, v0)] fun v1 =>
q9 h 242 v1 fun v2 h3 =>
qZ h3 a2 fun v4 =>
qW c (.fn 185 [] []) [v2, v4] h3 fun v5 h6 =>
qq .neq v5 (iI 0) fun v7 =>
qw (α := AV × AV × AV × AV × AV × Unit → AH → R) (fun s8 h9 =>
qn s8.2.1 s8.1 (.bool false) fun v11 =>
qj v11 (
qW c (.fn 190 [] []) [s8.2.2.2.1, s8.2.2.1] h9 fun _ h13 =>
qv h13 s8.2.2.2.2.1 (.bool true) 1 fun h14 =>
some ((.tup []), h14)) (
some ((.tup []), h9))) fun j10 =>
qe v7 true (
qW c (.fn 164 [] []) [a0] h6 fun v15 h16 =>
j10 (v15, v7, v5, v2, a3, ()) h16) (
j10 (.undef, v7, v5, v2, a3, ()) h6)
theorem S189_eq (c : CV) (a0 a1 a2 a3 : AV) (h : AH) : qg Tryz.prog NN P189 c 189 [a0, a1, a2, a3] h = S189 c a0 a1 a2 a3 h := by kernel_rfl
def W189 : WF := w_4 S189
theorem W189_ok : WOk Tryz.prog 189 W189 := yg (pl := P189) fun _ _ _ _ _ _ => by rw [S189_eq]
def P190 : Pl := (.n (some [1, 0]) (.n none (.r [[15, 11, 1, 0]]) (.n none (.n none .z (.n none (.r [[4, 1, 0]]) (.n none (.r [[4, 0]]) .z))) .z)) (.n none .z (.n (some [5, 1, 0]) .z (.n none .z (.n none .z (.n none (.n (some [1, 0]) .z .z) .z))))))
def S190 (c : CV) (a0 a1 : AV) (h : AH) : R :=
qw (α := AV × AV × Unit → AH → List Nat → R) (fun s0 h1 d2 =>
qW c (.fn 232 [] []) [s0.2.1, s0.1, (iI 0)] h1 fun v4 h5 =>
qw (α := AV × AV × AV × Unit → AH → List Nat → R) (fun s6 h7 d8 =>
qW c (.fn 234 [] []) [s6.2.2.1, s6.2.1] h7 fun v10 h11 =>
qC s6.2.2.1 fun v12 =>
qJ v12 2 fun v13 =>
qZ h11 v13 fun v14 =>
qr v14 fun v15 =>
qW c (.fn 186 [] []) [s6.2.2.1, v15, s6.1] h11 fun _ h17 =>
qw (α := AV × AV × Unit → AH → List Nat → R) (fun s18 h19 d20 =>
qC s18.2.1 fun v22 =>
qJ v22 0 fun v23 =>
qZ h19 v23 fun v24 =>
qW c (.fn 171 [] []) [v24, s18.1] h19 fun _ h26 =>
qP d20 h26 fun h27 =>
some ((.tup []), h27)) fun j21 =>
qj v10 (
j21 (s6.2.1, s6.2.2.1, ()) h17 d8) (
qW c (.fn 234 [] []) [s6.2.2.1, s6.1] h17 fun v28 h29 =>
qj v28 (
qW c (.fn 236 [] []) [s6.2.2.1, s6.1, (.bool false)] h29 fun _ h31 =>
j21 (s6.2.1, s6.2.2.1, ()) h31 d8) (
qW c (.fn 238 [] []) [s6.2.2.1] h29 fun _ h33 =>
j21 (s6.2.1, s6.2.2.1, ()) h33 d8))) fun j9 =>
qq .eql v4 (iI 0) fun v34 =>
qj v34 (
qW c (.fn 232 [] []) [s0.2.1, s0.1, (iI 1)] h5 fun v35 h36 =>
j9 (v35, s0.1, s0.2.1, ()) h36 d2) (
j9 (v4, s0.1, s0.2.1, ()) h5 d2)) fun j3 =>
qW c (.fn 232 [] []) [a0, a1, (iI 0)] h fun v37 h38 =>
qq .neq v37 (iI 0) fun v39 =>
qw (α := AV × AV × AV × AV × Unit → AH → R) (fun s40 h41 =>
qn s40.2.1 s40.1 (.bool false) fun v43 =>
qj v43 (
qW c (.fn 237 [] []) [s40.2.2.2.1, s40.2.2.1] h41 fun v44 h45 =>
qw (α := AV × AV × AV × Unit → AH → R) (fun s46 h47 =>
qw (α := AV × AV × Unit → AH → R) (fun s49 h50 =>
j3 (s49.1, s49.2.1, ()) h50 []) fun j51 =>
qC s46.2.2.1 fun v52 =>
qJ v52 0 fun v53 =>
qZ h47 v53 fun v54 =>
qq .add s46.2.1 (iI 1) fun v55 =>
qC s46.2.2.1 fun v56 =>
qJ v56 0 fun v57 =>
qZ h47 v57 fun v58 =>
qq .add s46.1 (iI 1) fun v59 =>
qW c (.fn 170 [] []) [v58, v59] h47 fun v60 h61 =>
qW c (.fn 167 [] []) [v54, v55, v60] h61 fun _ h63 =>
zQ v53 none v54 h47 h61 h47.nx <|
j51 (s46.1, s46.2.2.1, ()) h63) fun j48 =>
qC s40.2.2.2.1 fun v64 =>
qJ v64 0 fun v65 =>
qZ h45 v65 fun v66 =>
qq .add s40.2.2.1 (iI 0) fun v67 =>
qC s40.2.2.2.1 fun v68 =>
qJ v68 0 fun v69 =>
qZ h45 v69 fun v70 =>
qq .add v44 (iI 0) fun v71 =>
qW c (.fn 170 [] []) [v70, v71] h45 fun v72 h73 =>
qW c (.fn 167 [] []) [v66, v67, v72] h73 fun _ h75 =>
zQ v65 none v66 h45 h73 h45.nx <|
j48 (v44, s40.2.2.1, s40.2.2.2.1, ()) h75) (
j3 (s40.2.2.1, s40.2.2.2.1, ()) h41 [])) fun j42 =>
qe v39 true (
qW c (.fn 232 [] []) [a0, a1, (iI 1)] h38 fun v76 h77 =>
qq .neq v76 (iI 0) fun v78 =>
j42 (v78, v39, a1, a0, ()) h77) (
j42 (.undef, v39, a1, a0, ()) h38)
theorem S190_eq (c : CV) (a0 a1 : AV) (h : AH) : qg Tryz.prog NN P190 c 190 [a0, a1] h = S190 c a0 a1 h := by kernel_rfl
def W190 : WF := w_2 S190
theorem W190_ok : WOk Tryz.prog 190 W190 := jg (pl := P190) fun _ _ _ _ => by rw [S190_eq]
end
end Go.Proofs.YtdlfmpmpmkffjaaGreatDoor
