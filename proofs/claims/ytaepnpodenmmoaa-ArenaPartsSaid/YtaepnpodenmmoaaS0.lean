/- Printed by a program of mine: the bodies of the program's functions aa terms of the primitives of the abstract executor, each shown equal by the kernel. -/
import Derived.Test.YtaepnpodenmmoaaProg
import Derived.Test.YtaepnpodenmmoaaAe1
import Derived.KernelRfl
namespace Go.Proofs.Ytaepnpodenmmoaa
open Go Go.Ae
set_option maxRecDepth 100000
noncomputable section
/- quietus/quietuslaw11.ArenaRuns -/
def P3 : Pl := (.n none .z (.n none .z (.n none .z (.n none .z (.n none .z (.n none .z (.n none .z (.n none .z (.n none (.r [[35, 33, 8, 7, 6, 5, 4], [39, 37, 8, 7, 6, 5], [43, 41, 8, 7, 6], [47, 45, 8, 7], [51, 49, 8], [56, 53, 8], [62, 58], [66, 64], [70, 68], [75, 72]]) .z)))))))))
def S3 (c : CV) (h : AH) : R :=
pCall c (.fn 11 [] []) [(.int .i64 (.ofNat 40))] h fun v0 h1 =>
pCall c (.fn 10 [] []) [v0, (.int .i64 (.ofNat 20))] h1 fun v2 h3 =>
pEq .ptr false v2 .nilp fun v4 =>
pCond v4 (
some ((.bool false), h3)) (
pCall c (.fn 12 [] []) [v2, (.int .i64 (.ofNat 3))] h3 fun v5 h6 =>
pExtract v5 0 fun v7 =>
pExtract v5 1 fun v8 =>
pCall c (.fn 13 [] []) [v2, v7] h6 fun v9 h10 =>
pCall c (.fn 14 [] []) [v2, v7] h10 fun v11 h12 =>
pCall c (.fn 12 [] []) [v2, (.int .i64 (.ofNat 4))] h12 fun v13 h14 =>
pExtract v13 0 fun v15 =>
pExtract v13 1 fun v16 =>
pCall c (.fn 15 [] []) [v2] h14 fun v17 h18 =>
pInt .eql v8 (.int .i64 (.ofNat 0)) fun v19 =>
joinC (α := AV × AV × AV × AV × AV × AV × AV × Unit → AH → R) (fun s20 h21 =>
pPick s20.2.1 s20.1 (.bool false) fun v23 =>
joinC (α := AV × AV × AV × AV × AV × AV × Unit → AH → R) (fun s24 h25 =>
pPick s24.2.1 s24.1 (.bool false) fun v27 =>
joinC (α := AV × AV × AV × AV × AV × Unit → AH → R) (fun s28 h29 =>
pPick s28.2.1 s28.1 (.bool false) fun v31 =>
joinC (α := AV × AV × AV × AV × Unit → AH → R) (fun s32 h33 =>
pPick s32.2.1 s32.1 (.bool false) fun v35 =>
joinC (α := AV × AV × AV × Unit → AH → R) (fun s36 h37 =>
pPick s36.2.1 s36.1 (.bool false) fun v39 =>
joinC (α := AV × AV × AV × Unit → AH → R) (fun s40 h41 =>
pPick s40.2.1 s40.1 (.bool false) fun v43 =>
joinC (α := AV × AV × Unit → AH → R) (fun s44 h45 =>
pPick s44.2.1 s44.1 (.bool false) fun v47 =>
joinC (α := AV × AV × Unit → AH → R) (fun s48 h49 =>
pPick s48.2.1 s48.1 (.bool false) fun v51 =>
joinC (α := AV × AV × Unit → AH → R) (fun s52 h53 =>
pPick s52.2.1 s52.1 (.bool false) fun v55 =>
joinC (α := AV × AV × Unit → AH → R) (fun s56 h57 =>
pPick s56.2.1 s56.1 (.bool false) fun v59 =>
some (v59, h57)) fun j58 =>
pWant v55 true (
pCall c (.fn 11 [] []) [(.int .i64 (.ofNat 40))] h53 fun v60 h61 =>
pLenS v60 fun v62 =>
pInt .eql v62 (.int .i64 (.ofNat 40)) fun v63 =>
j58 (v63, v55, ()) h61) (
j58 (.undef, v55, ()) h53)) fun j54 =>
pWant v51 true (
pCall c (.fn 17 [] []) [(.int .i64 (.ofNat 2))] h49 fun v64 h65 =>
pInt .eql v64 (.int .i64 (.ofNat 4)) fun v66 =>
j54 (v66, v51, ()) h65) (
j54 (.undef, v51, ()) h49)) fun j50 =>
pWant v47 true (
pCall c (.fn 16 [] []) [(.int .i64 (.ofNat 3))] h45 fun v67 h68 =>
pInt .eql v67 (.int .i64 (.ofNat 2)) fun v69 =>
j50 (v69, v47, ()) h68) (
j50 (.undef, v47, ()) h45)) fun j46 =>
pWant v43 true (
pIdxS s40.2.2.1 (.int .i64 (.ofNat 0)) 1 fun v70 =>
pLoad1 h41 v70 fun v71 =>
pInt .eql v71 (.int .i64 (.ofNat 15)) fun v72 =>
j46 (v72, v43, ()) h41) (
j46 (.undef, v43, ()) h41)) fun j42 =>
pWant v39 true (
pLenS s36.2.2.1 fun v73 =>
pInt .eql v73 (.int .i64 (.ofNat 1)) fun v74 =>
j42 (v74, v39, s36.2.2.1, ()) h37) (
j42 (.undef, v39, s36.2.2.1, ()) h37)) fun j38 =>
pWant v35 true (
pInt .eql s32.2.2.2.1 (.int .i64 (.ofNat 0)) fun v75 =>
j38 (v75, v35, s32.2.2.1, ()) h33) (
j38 (.undef, v35, s32.2.2.1, ()) h33)) fun j34 =>
pWant v31 true (
pInt .eql s28.2.2.2.2.1 (.int .i64 (.ofNat 15)) fun v76 =>
j34 (v76, v31, s28.2.2.1, s28.2.2.2.1, ()) h29) (
j34 (.undef, v31, s28.2.2.1, s28.2.2.2.1, ()) h29)) fun j30 =>
pWant v27 true (
pInt .eql s24.2.2.2.2.2.1 (.int .i64 (.ofNat 0)) fun v77 =>
j30 (v77, v27, s24.2.2.1, s24.2.2.2.1, s24.2.2.2.2.1, ()) h25) (
j30 (.undef, v27, s24.2.2.1, s24.2.2.2.1, s24.2.2.2.2.1, ()) h25)) fun j26 =>
pWant v23 true (
pInt .eql s20.2.2.2.2.2.2.1 (.int .i64 (.ofNat 0)) fun v78 =>
j26 (v78, v23, s20.2.2.1, s20.2.2.2.1, s20.2.2.2.2.1, s20.2.2.2.2.2.1, ()) h21) (
j26 (.undef, v23, s20.2.2.1, s20.2.2.2.1, s20.2.2.2.2.1, s20.2.2.2.2.2.1, ()) h21)) fun j22 =>
pWant v19 true (
pInt .eql v7 (.int .i64 (.ofNat 15)) fun v79 =>
j22 (v79, v19, v17, v16, v15, v11, v9, ()) h18) (
j22 (.undef, v19, v17, v16, v15, v11, v9, ()) h18))
theorem S3_eq (c : CV) (h : AH) : enterK Try.prog NN P3 c 3 [] h = S3 c h := by kernel_rfl
def W3 (c : CV) (l : List AV) (h : AH) : R := match l with | [] => S3 c h | _ => none
theorem W3_ok : WOk Try.prog 3 W3 := by
  intro c l h r e
  unfold W3 at e
  split at e
  · exact ⟨P3, by rw [S3_eq]; exact e⟩
  · cases e
/- quietus/quietuslaw11.ArenaClasses -/
def P4 : Pl := (.n none .z (.n none .z (.n none .z (.n none (.n none (.r [[12, 10, 3, 0]]) (.n none (.n none (.r [[19, 16, 0], [21, 19, 16, 0], [23, 16, 0], [26, 23, 16], [27, 16]]) .z) .z)) (.n none (.r [[33, 31, 3, 0], [39, 35, 3, 0], [44, 41, 3, 0], [49, 44, 41, 3], [50, 41, 3], [59, 52]]) .z)))))
def S4 (c : CV) (a0 : AV) (h : AH) : R :=
pCall c (.fn 3 [] []) [] h fun v0 h1 =>
pUn .not v0 fun v2 =>
pCond v2 (
some ((.bool false), h1)) (
pCall c (.fn 16 [] []) [a0] h1 fun v3 h4 =>
pInt .lss a0 (.int .i64 (.ofNat 1)) fun v5 =>
joinC (α := AV × AV × AV × AV × Unit → AH → R) (fun s6 h7 =>
pPick s6.2.1 (.bool true) s6.1 fun v9 =>
pCond v9 (
pInt .eql s6.2.2.1 (.int .i64 (.ofNat 0)) fun v10 =>
joinC (α := AV × AV × AV × Unit → AH → R) (fun s11 h12 =>
joinC (α := AV × AV × AV × AV × Unit → AH → R) (fun s14 h15 =>
joinC (α := AV × AV × AV × Unit → AH → R) (fun s17 h18 =>
joinC (α := AV × AV × AV × Unit → AH → R) (fun s20 h21 =>
joinC (α := AV × AV × Unit → AH → R) (fun s23 h24 =>
pPick s23.2.1 s23.1 (.bool false) fun v26 =>
some (v26, h24)) fun j25 =>
pWant s20.2.2.1 true (
pPick s20.2.1 (.bool true) s20.1 fun v27 =>
j25 (v27, s20.2.2.1, ()) h21) (
j25 (.undef, s20.2.2.1, ()) h21)) fun j22 =>
pWant s17.1 false (
pCall c (.fn 17 [] []) [s17.2.2.1] h18 fun v28 h29 =>
pInt .eql v28 (.int .i64 (.ofNat 0)) fun v30 =>
j22 (v30, s17.1, s17.2.1, ()) h29) (
j22 (.undef, s17.1, s17.2.1, ()) h18)) fun j19 =>
pWant s14.2.2.1 true (
pPick s14.2.1 s14.1 (.bool false) fun v31 =>
j19 (v31, s14.2.2.1, s14.2.2.2.1, ()) h15) (
j19 (.undef, s14.2.2.1, s14.2.2.2.1, ()) h15)) fun j16 =>
pWant s11.1 true (
pInt .leq s11.2.2.1 (.int .i64 (.ofNat 4)) fun v32 =>
j16 (v32, s11.1, s11.2.1, s11.2.2.1, ()) h12) (
j16 (.undef, s11.1, s11.2.1, s11.2.2.1, ()) h12)) fun j13 =>
pWant v10 true (
pInt .geq s6.2.2.2.1 (.int .i64 (.ofNat 1)) fun v33 =>
j13 (v33, v10, s6.2.2.2.1, ()) h7) (
j13 (.undef, v10, s6.2.2.2.1, ()) h7)) (
pInt .geq s6.2.2.1 (.int .i64 (.ofNat 1)) fun v34 =>
joinC (α := AV × AV × AV × AV × Unit → AH → R) (fun s35 h36 =>
pPick s35.2.1 s35.1 (.bool false) fun v38 =>
joinC (α := AV × AV × AV × AV × Unit → AH → R) (fun s39 h40 =>
pPick s39.2.1 s39.1 (.bool false) fun v42 =>
joinC (α := AV × AV × AV × AV × Unit → AH → R) (fun s43 h44 =>
joinC (α := AV × AV × AV × AV × Unit → AH → R) (fun s46 h47 =>
joinC (α := AV × AV × AV × Unit → AH → R) (fun s49 h50 =>
pPick s49.2.1 s49.1 (.bool false) fun v52 =>
joinC (α := AV × AV × Unit → AH → R) (fun s53 h54 =>
pPick s53.2.1 s53.1 (.bool false) fun v56 =>
some (v56, h54)) fun j55 =>
pWant v52 true (
pCall c (.fn 17 [] []) [s49.2.2.1] h50 fun v57 h58 =>
pInt .sub s49.2.2.1 (.int .i64 (.ofNat 1)) fun v59 =>
pConvI .u64 v59 fun v60 =>
pShift .shl (.int .i64 (.ofNat 2)) v60 fun v61 =>
pInt .eql v57 v61 fun v62 =>
j55 (v62, v52, ()) h58) (
j55 (.undef, v52, ()) h50)) fun j51 =>
pWant s46.2.2.1 true (
pPick s46.2.1 (.bool true) s46.1 fun v63 =>
j51 (v63, s46.2.2.1, s46.2.2.2.1, ()) h47) (
j51 (.undef, s46.2.2.1, s46.2.2.2.1, ()) h47)) fun j48 =>
pWant s43.1 false (
pInt .sub s43.2.2.1 (.int .i64 (.ofNat 1)) fun v64 =>
pCall c (.fn 17 [] []) [v64] h44 fun v65 h66 =>
pInt .lss v65 s43.2.2.2.1 fun v67 =>
j48 (v67, s43.1, s43.2.1, s43.2.2.1, ()) h66) (
j48 (.undef, s43.1, s43.2.1, s43.2.2.1, ()) h44)) fun j45 =>
pWant v42 true (
pInt .eql s39.2.2.1 (.int .i64 (.ofNat 1)) fun v68 =>
j45 (v68, v42, s39.2.2.1, s39.2.2.2.1, ()) h40) (
j45 (.undef, v42, s39.2.2.1, s39.2.2.2.1, ()) h40)) fun j41 =>
pWant v38 true (
pCall c (.fn 17 [] []) [s35.2.2.1] h36 fun v69 h70 =>
pInt .geq v69 s35.2.2.2.1 fun v71 =>
j41 (v71, v38, s35.2.2.1, s35.2.2.2.1, ()) h70) (
j41 (.undef, v38, s35.2.2.1, s35.2.2.2.1, ()) h36)) fun j37 =>
pWant v34 true (
pInt .leq s6.2.2.1 (.int .i64 (.ofNat 4)) fun v72 =>
j37 (v72, v34, s6.2.2.1, s6.2.2.2.1, ()) h7) (
j37 (.undef, v34, s6.2.2.1, s6.2.2.2.1, ()) h7))) fun j8 =>
pWant v5 false (
pInt .gtr a0 (.int .i64 (.ofNat 16)) fun v73 =>
j8 (v73, v5, v3, a0, ()) h4) (
j8 (.undef, v5, v3, a0, ()) h4))
theorem S4_eq (c : CV) (a0 : AV) (h : AH) : enterK Try.prog NN P4 c 4 [a0] h = S4 c a0 h := by kernel_rfl
def W4 (c : CV) (l : List AV) (h : AH) : R := match l with | [a0] => S4 c a0 h | _ => none
theorem W4_ok : WOk Try.prog 4 W4 := by
  intro c l h r e
  unfold W4 at e
  split at e
  · exact ⟨P4, by rw [S4_eq]; exact e⟩
  · cases e
/- quietus/quietuslaw11.ArenaFull -/
def P5 : Pl := (.n none .z (.n none .z (.n none .z (.n none .z (.n none .z (.n none .z (.n none .z (.n none .z (.n none (.n none .z (.n none (.n (some [13, 12, 11, 8, 7, 2]) (.n none .z (.n none (.n none (.n none .z (.n none .z (.n none .z (.n none (.n none (.r [[67, 64, 16, 15, 14, 13, 12, 11, 8, 7, 2], [70, 67, 64, 16, 15, 14, 13, 12, 11, 8, 7, 2], [74, 70, 67, 64, 16, 15, 14, 13, 12, 11, 8, 7, 2], [75, 67, 64, 16, 15, 14, 13, 12, 11, 8, 7, 2], [76, 64, 16, 15, 14, 13, 12, 11, 8, 7, 2]]) .z) (.n (some [14, 13, 12, 11, 8, 7, 2]) .z .z))))) .z) .z)) .z) .z)) (.n none .z (.n none .z (.n none .z (.n none .z (.n none .z (.n none .z (.n none (.r [[117, 115, 22, 21, 18, 17], [121, 119, 21, 18, 17], [126, 123, 18, 17], [133, 128]]) .z))))))))))))))))
def S5 (c : CV) (a0 a1 a2 : AV) (h : AH) : R :=
pCall c (.fn 3 [] []) [] h fun v0 h1 =>
pUn .not v0 fun v2 =>
pCond v2 (
some ((.bool false), h1)) (
pInt .rem a1 (.int .u8 (.ofNat 16)) fun v3 =>
pConvI .i64 v3 fun v4 =>
pInt .add v4 (.int .i64 (.ofNat 1)) fun v5 =>
pConvI .i64 a0 fun v6 =>
pCall c (.fn 11 [] []) [v6] h1 fun v7 h8 =>
pConvI .i64 a0 fun v9 =>
pCall c (.fn 18 [] []) [v9, (.int .i64 (.ofNat 32)), (.int .i64 (.ofNat 256))] h8 fun v10 h11 =>
pCall c (.fn 16 [] []) [v5] h11 fun v12 h13 =>
pCall c (.fn 17 [] []) [v12] h13 fun v14 h15 =>
pInt .add v14 (.int .i64 (.ofNat 1)) fun v16 =>
pInt .sub v10 (.int .i64 (.ofNat 14)) fun v17 =>
pInt .quo v17 v16 fun v18 =>
loopC (σ := AV × AV × AV × AV × AV × AV × Unit) NN (fun i22 s19 h20 d21 =>
pInt .leq s19.1 s19.2.2.1 fun v23 =>
pCond v23 (
pCall c (.fn 10 [] []) [s19.2.2.2.1, (.int .i64 (.ofNat 9))] h20 fun v24 h25 =>
pEq .ptr false v24 .nilp fun v26 =>
pCond v26 (
pLeave d21 h25 fun h27 =>
some ((.bool false), h27)) (
pCall c (.fn 12 [] []) [v24, s19.2.2.2.2.1] h25 fun v28 h29 =>
pExtract v28 0 fun v30 =>
pExtract v28 1 fun v31 =>
pInt .eql v31 (.int .i64 (.ofNat 0)) fun v32 =>
pInt .lss s19.1 s19.2.2.1 fun v33 =>
pEq .bool true v32 v33 fun v34 =>
joinC (α := AV × AV × AV × AV × AV × AV × AV × AV × AV × AV × AV × Unit → AH → R) (fun s35 h36 =>
joinC (α := AV × AV × AV × AV × AV × AV × AV × AV × AV × AV × AV × AV × Unit → AH → R) (fun s38 h39 =>
joinC (α := AV × AV × AV × AV × AV × AV × AV × AV × AV × AV × AV × AV × AV × Unit → AH → R) (fun s41 h42 =>
joinC (α := AV × AV × AV × AV × AV × AV × AV × AV × AV × AV × AV × AV × Unit → AH → R) (fun s44 h45 =>
joinC (α := AV × AV × AV × AV × AV × AV × AV × AV × AV × AV × AV × Unit → AH → R) (fun s47 h48 =>
pPick s47.2.1 (.bool true) s47.1 fun v50 =>
pCond v50 (
pLeave d21 h48 fun h51 =>
some ((.bool false), h51)) (
joinC (α := AV × AV × AV × AV × AV × AV × AV × Unit → AH → List Nat → R) (fun s52 h53 d54 =>
pCall c (.fn 19 [] []) [s52.1] h53 fun v56 h57 =>
pCall c (.fn 20 [] []) [s52.2.2.2.2.1, v56] h57 fun v58 h59 =>
pInt .add s52.2.1 (.int .i64 (.ofNat 1)) fun v60 =>
i22 (v60, s52.2.2.1, s52.2.2.2.1, v58, s52.2.2.2.2.2.1, s52.2.2.2.2.2.2.1, ()) h59 d54) fun j55 =>
pInt .eql s47.2.2.1 (.int .i64 (.ofNat 0)) fun v61 =>
pCond v61 (
pBuildS h48 3 [(.int .i64 (.ofNat 0))] 1 [(0, 1, s47.2.2.2.1)] fun v62 h63 =>
pAppend h63 3 1 s47.2.2.2.2.2.2.1 v62 fun v64 h65 =>
j55 (s47.2.2.2.2.1, s47.2.2.2.2.2.1, v64, s47.2.2.2.2.2.2.2.1, s47.2.2.2.2.2.2.2.2.1, s47.2.2.2.2.2.2.2.2.2.1, s47.2.2.2.2.2.2.2.2.2.2.1, ()) h65 d21) (
j55 (s47.2.2.2.2.1, s47.2.2.2.2.2.1, s47.2.2.2.2.2.2.1, s47.2.2.2.2.2.2.2.1, s47.2.2.2.2.2.2.2.2.1, s47.2.2.2.2.2.2.2.2.2.1, s47.2.2.2.2.2.2.2.2.2.2.1, ()) h48 d21))) fun j49 =>
pWant s44.2.2.1 false (
pPick s44.2.1 s44.1 (.bool false) fun v66 =>
j49 (v66, s44.2.2.1, s44.2.2.2.1, s44.2.2.2.2.1, s44.2.2.2.2.2.1, s44.2.2.2.2.2.2.1, s44.2.2.2.2.2.2.2.1, s44.2.2.2.2.2.2.2.2.1, s44.2.2.2.2.2.2.2.2.2.1, s44.2.2.2.2.2.2.2.2.2.2.1, s44.2.2.2.2.2.2.2.2.2.2.2.1, ()) h45) (
j49 (.undef, s44.2.2.1, s44.2.2.2.1, s44.2.2.2.2.1, s44.2.2.2.2.2.1, s44.2.2.2.2.2.2.1, s44.2.2.2.2.2.2.2.1, s44.2.2.2.2.2.2.2.2.1, s44.2.2.2.2.2.2.2.2.2.1, s44.2.2.2.2.2.2.2.2.2.2.1, s44.2.2.2.2.2.2.2.2.2.2.2.1, ()) h45)) fun j46 =>
pWant s41.2.2.1 true (
pPick s41.2.1 (.bool true) s41.1 fun v67 =>
j46 (v67, s41.2.2.1, s41.2.2.2.1, s41.2.2.2.2.1, s41.2.2.2.2.2.1, s41.2.2.2.2.2.2.1, s41.2.2.2.2.2.2.2.1, s41.2.2.2.2.2.2.2.2.1, s41.2.2.2.2.2.2.2.2.2.1, s41.2.2.2.2.2.2.2.2.2.2.1, s41.2.2.2.2.2.2.2.2.2.2.2.1, s41.2.2.2.2.2.2.2.2.2.2.2.2.1, ()) h42) (
j46 (.undef, s41.2.2.1, s41.2.2.2.1, s41.2.2.2.2.1, s41.2.2.2.2.2.1, s41.2.2.2.2.2.2.1, s41.2.2.2.2.2.2.2.1, s41.2.2.2.2.2.2.2.2.1, s41.2.2.2.2.2.2.2.2.2.1, s41.2.2.2.2.2.2.2.2.2.2.1, s41.2.2.2.2.2.2.2.2.2.2.2.1, s41.2.2.2.2.2.2.2.2.2.2.2.2.1, ()) h42)) fun j43 =>
pWant s38.1 false (
pCall c (.fn 19 [] []) [s38.2.2.2.2.2.1] h39 fun v68 h69 =>
pLenS v68 fun v70 =>
pInt .neq v70 (.int .i64 (.ofNat 0)) fun v71 =>
j43 (v71, s38.1, s38.2.1, s38.2.2.1, s38.2.2.2.1, s38.2.2.2.2.1, s38.2.2.2.2.2.1, s38.2.2.2.2.2.2.1, s38.2.2.2.2.2.2.2.1, s38.2.2.2.2.2.2.2.2.1, s38.2.2.2.2.2.2.2.2.2.1, s38.2.2.2.2.2.2.2.2.2.2.1, s38.2.2.2.2.2.2.2.2.2.2.2.1, ()) h69) (
j43 (.undef, s38.1, s38.2.1, s38.2.2.1, s38.2.2.2.1, s38.2.2.2.2.1, s38.2.2.2.2.2.1, s38.2.2.2.2.2.2.1, s38.2.2.2.2.2.2.2.1, s38.2.2.2.2.2.2.2.2.1, s38.2.2.2.2.2.2.2.2.2.1, s38.2.2.2.2.2.2.2.2.2.2.1, s38.2.2.2.2.2.2.2.2.2.2.2.1, ()) h39)) fun j40 =>
pWant s35.1 true (
pInt .neq s35.2.2.1 (.int .i64 (.ofNat 4)) fun v72 =>
j40 (v72, s35.1, s35.2.1, s35.2.2.1, s35.2.2.2.1, s35.2.2.2.2.1, s35.2.2.2.2.2.1, s35.2.2.2.2.2.2.1, s35.2.2.2.2.2.2.2.1, s35.2.2.2.2.2.2.2.2.1, s35.2.2.2.2.2.2.2.2.2.1, s35.2.2.2.2.2.2.2.2.2.2.1, ()) h36) (
j40 (.undef, s35.1, s35.2.1, s35.2.2.1, s35.2.2.2.1, s35.2.2.2.2.1, s35.2.2.2.2.2.1, s35.2.2.2.2.2.2.1, s35.2.2.2.2.2.2.2.1, s35.2.2.2.2.2.2.2.2.1, s35.2.2.2.2.2.2.2.2.2.1, s35.2.2.2.2.2.2.2.2.2.2.1, ()) h36)) fun j37 =>
pWant v34 false (
pInt .neq v31 (.int .i64 (.ofNat 0)) fun v73 =>
j37 (v73, v34, v31, v30, v24, s19.1, s19.2.1, s19.2.2.1, s19.2.2.2.1, s19.2.2.2.2.1, s19.2.2.2.2.2.1, ()) h29) (
j37 (.undef, v34, v31, v30, v24, s19.1, s19.2.1, s19.2.2.1, s19.2.2.2.1, s19.2.2.2.2.1, s19.2.2.2.2.2.1, ()) h29))) (
pInt .eql s19.2.2.1 (.int .i64 (.ofNat 0)) fun v74 =>
pCond v74 (
pLeave d21 h20 fun h75 =>
some ((.bool true), h75)) (
pCall c (.fn 10 [] []) [s19.2.2.2.1, (.int .i64 (.ofNat 9))] h20 fun v76 h77 =>
pEq .ptr false v76 .nilp fun v78 =>
pCond v78 (
pLeave d21 h77 fun h79 =>
some ((.bool false), h79)) (
pConvI .i64 s19.2.2.2.2.2.1 fun v80 =>
pInt .rem v80 s19.2.2.1 fun v81 =>
pIdxS s19.2.1 v81 1 fun v82 =>
pLoad1 h77 v82 fun v83 =>
pCall c (.fn 13 [] []) [v76, v83] h77 fun v84 h85 =>
pCall c (.fn 14 [] []) [v76, v83] h85 fun v86 h87 =>
pCall c (.fn 12 [] []) [v76, s19.2.2.2.2.1] h87 fun v88 h89 =>
pExtract v88 0 fun v90 =>
pExtract v88 1 fun v91 =>
pInt .eql v84 (.int .i64 (.ofNat 0)) fun v92 =>
joinC (α := AV × AV × AV × AV × AV × AV × Unit → AH → R) (fun s93 h94 =>
pPick s93.2.1 s93.1 (.bool false) fun v96 =>
joinC (α := AV × AV × AV × AV × AV × Unit → AH → R) (fun s97 h98 =>
pPick s97.2.1 s97.1 (.bool false) fun v100 =>
joinC (α := AV × AV × AV × AV × Unit → AH → R) (fun s101 h102 =>
pPick s101.2.1 s101.1 (.bool false) fun v104 =>
joinC (α := AV × AV × Unit → AH → R) (fun s105 h106 =>
pPick s105.2.1 s105.1 (.bool false) fun v108 =>
pLeave d21 h106 fun h109 =>
some (v108, h109)) fun j107 =>
pWant v104 true (
pInt .add s101.2.2.1 (.int .i64 (.ofNat 1)) fun v110 =>
pCall c (.fn 13 [] []) [s101.2.2.2.1, v110] h102 fun v111 h112 =>
pInt .neq v111 (.int .i64 (.ofNat 0)) fun v113 =>
j107 (v113, v104, ()) h112) (
j107 (.undef, v104, ()) h102)) fun j103 =>
pWant v100 true (
pInt .eql s97.2.2.1 s97.2.2.2.1 fun v114 =>
j103 (v114, v100, s97.2.2.2.1, s97.2.2.2.2.1, ()) h98) (
j103 (.undef, v100, s97.2.2.2.1, s97.2.2.2.2.1, ()) h98)) fun j99 =>
pWant v96 true (
pInt .eql s93.2.2.1 (.int .i64 (.ofNat 0)) fun v115 =>
j99 (v115, v96, s93.2.2.2.1, s93.2.2.2.2.1, s93.2.2.2.2.2.1, ()) h94) (
j99 (.undef, v96, s93.2.2.2.1, s93.2.2.2.2.1, s93.2.2.2.2.2.1, ()) h94)) fun j95 =>
pWant v92 true (
pInt .eql v86 (.int .i64 (.ofNat 0)) fun v116 =>
j95 (v116, v92, v91, v90, v83, v76, ()) h89) (
j95 (.undef, v92, v91, v90, v83, v76, ()) h89))))) ((.int .i64 (.ofNat 0)), .nils, v18, v7, v5, a2, ()) h15 [])
theorem S5_eq (c : CV) (a0 a1 a2 : AV) (h : AH) : enterK Try.prog NN P5 c 5 [a0, a1, a2] h = S5 c a0 a1 a2 h := by kernel_rfl
def W5 (c : CV) (l : List AV) (h : AH) : R := match l with | [a0, a1, a2] => S5 c a0 a1 a2 h | _ => none
theorem W5_ok : WOk Try.prog 5 W5 := by
  intro c l h r e
  unfold W5 at e
  split at e
  · exact ⟨P5, by rw [S5_eq]; exact e⟩
  · cases e
/- quietus/quietuslaw11.ArenaPlays -/
def P6 : Pl := (.n none .z (.n none .z (.n none .z (.n none .z (.n none .z (.n none .z (.n none .z (.n none (.n none .z (.n none (.n (some [11, 10, 9, 8, 2]) (.n none (.n none (.r [[37, 35, 11, 10, 9, 8, 2]]) .z) (.n none (.n none (.n none .z (.n none .z (.n none (.r [[59, 55, 11, 10, 9, 8, 2]]) .z))) .z) .z)) .z) .z)) .z))))))))
def S6 (c : CV) (a0 a1 a2 : AV) (h : AH) : R :=
pCall c (.fn 3 [] []) [] h fun v0 h1 =>
pUn .not v0 fun v2 =>
pCond v2 (
some ((.bool false), h1)) (
pCall c (.fn 11 [] []) [a0] h1 fun v3 h4 =>
pCall c (.fn 22 [] []) [a0] h4 fun v5 h6 =>
pCall c (.fn 21 [] []) [v3, v5] h6 fun v7 h8 =>
pUn .not v7 fun v9 =>
pCond v9 (
some ((.bool false), h8)) (
pCall c (.fn 10 [] []) [v3, a1] h8 fun v10 h11 =>
pCall c (.fn 23 [] []) [v3, a1] h11 fun v12 h13 =>
pEq .ptr false v10 .nilp fun v14 =>
pCond v14 (
some ((.bool false), h13)) (
loopC (σ := AV × AV × AV × AV × AV × Unit) NN (fun i18 s15 h16 d17 =>
pLenS s15.2.2.2.2.1 fun v19 =>
pInt .lss s15.1 v19 fun v20 =>
joinC (α := AV × AV × AV × AV × AV × AV × AV × Unit → AH → R) (fun s21 h22 =>
pPick s21.2.1 s21.1 (.bool false) fun v24 =>
pCond v24 (
pIdxS s21.2.2.2.2.2.2.1 s21.2.2.1 3 fun v25 =>
pLoadN h22 v25 3 fun v26 =>
pCall c (.fn 24 [] []) [s21.2.2.2.2.2.1, s21.2.2.2.2.1, v26, s21.2.2.2.1] h22 fun v27 h28 =>
pExtract v27 0 fun v29 =>
pExtract v27 1 fun v30 =>
pUn .not v30 fun v31 =>
joinC (α := AV × AV × AV × AV × AV × AV × AV × Unit → AH → R) (fun s32 h33 =>
pPick s32.2.1 (.bool true) s32.1 fun v35 =>
pCond v35 (
pLeave d17 h33 fun h36 =>
some ((.bool false), h36)) (
pInt .add s32.2.2.1 (.int .i64 (.ofNat 1)) fun v37 =>
i18 (v37, s32.2.2.2.1, s32.2.2.2.2.1, s32.2.2.2.2.2.1, s32.2.2.2.2.2.2.1, ()) h33 d17)) fun j34 =>
pWant v31 false (
pCall c (.fn 25 [] []) [s21.2.2.2.2.2.1, s21.2.2.2.2.1] h28 fun v38 h39 =>
pUn .not v38 fun v40 =>
j34 (v40, v31, s21.2.2.1, v29, s21.2.2.2.2.1, s21.2.2.2.2.2.1, s21.2.2.2.2.2.2.1, ()) h39) (
j34 (.undef, v31, s21.2.2.1, v29, s21.2.2.2.2.1, s21.2.2.2.2.2.1, s21.2.2.2.2.2.2.1, ()) h28)) (
pLeave d17 h22 fun h41 =>
some ((.bool true), h41))) fun j23 =>
pWant v20 true (
pInt .lss s15.1 (.int .i64 (.ofNat 40)) fun v42 =>
j23 (v42, v20, s15.1, s15.2.1, s15.2.2.1, s15.2.2.2.1, s15.2.2.2.2.1, ()) h16) (
j23 (.undef, v20, s15.1, s15.2.1, s15.2.2.1, s15.2.2.2.1, s15.2.2.2.2.1, ()) h16)) ((.int .i64 (.ofNat 0)), .nils, v12, v10, a2, ()) h13 [])))
theorem S6_eq (c : CV) (a0 a1 a2 : AV) (h : AH) : enterK Try.prog NN P6 c 6 [a0, a1, a2] h = S6 c a0 a1 a2 h := by kernel_rfl
def W6 (c : CV) (l : List AV) (h : AH) : R := match l with | [a0, a1, a2] => S6 c a0 a1 a2 h | _ => none
theorem W6_ok : WOk Try.prog 6 W6 := by
  intro c l h r e
  unfold W6 at e
  split at e
  · exact ⟨P6, by rw [S6_eq]; exact e⟩
  · cases e
/- quietus/quietuslaw11.ArenaNeeds -/
def P7 : Pl := (.n none .z (.n none .z (.n none .z (.n none (.n none .z (.n none (.n (some [8, 7, 5, 1, 0]) (.n none (.n none (.r [[26, 24, 8, 7, 5, 1, 0]]) .z) (.n none (.n (some [8, 7, 5, 1, 0]) .z .z) .z)) .z) .z)) (.n none (.n none .z (.n none (.n (some [9, 7, 5, 1]) (.n none (.n none (.r [[50, 48, 9, 7, 5, 1]]) .z) .z) .z) .z)) (.n none .z (.n none .z (.n none (.n none .z (.n none (.n (some [12, 11, 10, 7, 5]) (.n none .z (.n none (.n none (.n none .z (.n none .z (.n none (.n none (.r [[86, 82, 13, 12, 11, 10, 7, 5]]) .z) (.n none .z (.n none (.n none (.r [[95, 93, 16, 12, 11, 10, 7, 5], [99, 97, 16, 12, 11, 10, 7, 5]]) .z) (.n none (.r [[113, 105, 16, 12, 11, 10, 7, 5], [123, 115, 12, 11, 10, 7, 5]]) .z)))))) .z) .z)) .z) .z)) .z))))))))
def S7 (c : CV) (a0 a1 a2 : AV) (h : AH) : R :=
pBox h 49 a2 fun v0 h1 =>
pCall c (.fn 3 [] []) [] h1 fun v2 h3 =>
pUn .not v2 fun v4 =>
pCond v4 (
some ((.bool false), h3)) (
pCall c (.fn 22 [] []) [(.int .i64 (.ofNat 64))] h3 fun v5 h6 =>
loopC (σ := AV × AV × AV × AV × AV × Unit) NN (fun i10 s7 h8 d9 =>
pLenS s7.2.2.2.2.1 fun v11 =>
pInt .lss s7.1 v11 fun v12 =>
joinC (α := AV × AV × AV × AV × AV × AV × AV × Unit → AH → R) (fun s13 h14 =>
pPick s13.2.1 s13.1 (.bool false) fun v16 =>
pCond v16 (
joinC (α := AV × AV × AV × AV × AV × Unit → AH → List Nat → R) (fun s17 h18 d19 =>
pInt .add s17.1 (.int .i64 (.ofNat 1)) fun v21 =>
i10 (v21, s17.2.1, s17.2.2.1, s17.2.2.2.1, s17.2.2.2.2.1, ()) h18 d19) fun j20 =>
pIdxS s13.2.2.2.2.2.2.1 s13.2.2.1 1 fun v22 =>
pLoad1 h14 v22 fun v23 =>
pInt .rem v23 (.int .u64 (.ofNat 4)) fun v24 =>
pInt .gtr v24 (.int .u64 (.ofNat 0)) fun v25 =>
pCond v25 (
pIdxS s13.2.2.2.2.2.2.1 s13.2.2.1 1 fun v26 =>
pLoad1 h14 v26 fun v27 =>
pInt .rem v27 (.int .u64 (.ofNat 70)) fun v28 =>
pIdxS s13.2.2.2.1 s13.2.2.1 1 fun v29 =>
pStore h14 v29 v28 1 fun h30 =>
j20 (s13.2.2.1, s13.2.2.2.1, s13.2.2.2.2.1, s13.2.2.2.2.2.1, s13.2.2.2.2.2.2.1, ()) h30 d9) (
j20 (s13.2.2.1, s13.2.2.2.1, s13.2.2.2.2.1, s13.2.2.2.2.2.1, s13.2.2.2.2.2.2.1, ()) h14 d9)) (
loopC (σ := AV × AV × AV × AV × Unit) NN (fun i34 s31 h32 d33 =>
pLenS s31.2.2.2.1 fun v35 =>
pInt .lss s31.1 v35 fun v36 =>
joinC (α := AV × AV × AV × AV × AV × AV × Unit → AH → R) (fun s37 h38 =>
pPick s37.2.1 s37.1 (.bool false) fun v40 =>
pCond v40 (
pIdxS s37.2.2.2.2.2.1 s37.2.2.1 1 fun v41 =>
pLoad1 h38 v41 fun v42 =>
pInt .rem v42 (.int .u8 (.ofNat 66)) fun v43 =>
pConvI .u64 v43 fun v44 =>
pIdxS s37.2.2.2.1 s37.2.2.1 1 fun v45 =>
pStore h38 v45 v44 1 fun h46 =>
pInt .add s37.2.2.1 (.int .i64 (.ofNat 1)) fun v47 =>
i34 (v47, s37.2.2.2.1, s37.2.2.2.2.1, s37.2.2.2.2.2.1, ()) h46 d33) (
pCall c (.fn 26 [] []) [(.int .i64 (.ofNat 64)), (.int .i64 (.ofNat 20))] h38 fun v48 h49 =>
pCall c (.fn 27 [] []) [(.int .i64 (.ofNat 64)), (.int .i64 (.ofNat 20))] h49 fun v50 h51 =>
pEq .ptr false v48 .nilp fun v52 =>
pCond v52 (
pLeave d33 h51 fun h53 =>
some ((.bool false), h53)) (
loopC (σ := AV × AV × AV × AV × AV × Unit) NN (fun i57 s54 h55 d56 =>
pInt .lss s54.1 (.int .i64 (.ofNat 9)) fun v58 =>
pCond v58 (
pCall c (.fn 28 [] []) [s54.2.2.1] h55 fun v59 h60 =>
pLoadN h60 s54.2.2.2.2.1 3 fun v61 =>
pCall c (.fn 24 [] []) [s54.2.2.1, s54.2.1, v61, .nils] h60 fun v62 h63 =>
pExtract v62 0 fun _ =>
pExtract v62 1 fun v65 =>
pUn .not v65 fun v66 =>
joinC (α := AV × AV × AV × AV × AV × AV × AV × AV × Unit → AH → R) (fun s67 h68 =>
pPick s67.2.1 (.bool true) s67.1 fun v70 =>
pCond v70 (
pLeave d56 h68 fun h71 =>
some ((.bool false), h71)) (
pCall c (.fn 28 [] []) [s67.2.2.2.2.2.1] h68 fun v72 h73 =>
pInt .eql v72 s67.2.2.1 fun v74 =>
joinC (α := AV × AV × AV × AV × AV × AV × AV × AV × Unit → AH → R) (fun s75 h76 =>
pPick s75.2.1 (.bool true) s75.1 fun v78 =>
joinC (α := AV × AV × AV × AV × AV × AV × AV × AV × Unit → AH → R) (fun s79 h80 =>
pPick s79.2.1 (.bool true) s79.1 fun v82 =>
pCond v82 (
pLeave d56 h80 fun h83 =>
some ((.bool true), h83)) (
pCall c (.fn 19 [] []) [s79.2.2.2.2.2.1] h80 fun v84 h85 =>
pLenS v84 fun v86 =>
pInt .gtr v86 (.int .i64 (.ofNat 0)) fun v87 =>
joinC (α := AV × AV × AV × AV × AV × AV × AV × AV × Unit → AH → R) (fun s88 h89 =>
pPick s88.2.1 (.bool true) s88.1 fun v91 =>
joinC (α := AV × AV × AV × AV × AV × AV × AV × Unit → AH → R) (fun s92 h93 =>
pPick s92.2.1 (.bool true) s92.1 fun v95 =>
pCond v95 (
pLeave d56 h93 fun h96 =>
some ((.bool false), h96)) (
pInt .add s92.2.2.1 (.int .i64 (.ofNat 1)) fun v97 =>
i57 (v97, s92.2.2.2.1, s92.2.2.2.2.1, s92.2.2.2.2.2.1, s92.2.2.2.2.2.2.1, ()) h93 d56)) fun j94 =>
pWant v91 false (
pIdxS s88.2.2.2.2.2.2.1 s88.2.2.1 1 fun v98 =>
pLoad1 h89 v98 fun v99 =>
pCall c (.fn 30 [] []) [s88.2.2.2.2.1, s88.2.2.1, v99] h89 fun v100 h101 =>
pInt .neq v100 (.int .i64 (.ofNat 0)) fun v102 =>
j94 (v102, v91, s88.2.2.2.1, s88.2.2.2.2.1, s88.2.2.2.2.2.1, s88.2.2.2.2.2.2.1, s88.2.2.2.2.2.2.2.1, ()) h101) (
j94 (.undef, v91, s88.2.2.2.1, s88.2.2.2.2.1, s88.2.2.2.2.2.1, s88.2.2.2.2.2.2.1, s88.2.2.2.2.2.2.2.1, ()) h89)) fun j90 =>
pWant v87 false (
pIdxS s79.2.2.2.2.2.2.1 s79.2.2.1 1 fun v103 =>
pLoad1 h85 v103 fun v104 =>
pCall c (.fn 29 [] []) [s79.2.2.2.2.2.1, s79.2.2.1, v104] h85 fun v105 h106 =>
pInt .neq v105 (.int .i64 (.ofNat 0)) fun v107 =>
j90 (v107, v87, s79.2.2.1, s79.2.2.2.1, s79.2.2.2.2.1, s79.2.2.2.2.2.1, s79.2.2.2.2.2.2.1, s79.2.2.2.2.2.2.2.1, ()) h106) (
j90 (.undef, v87, s79.2.2.1, s79.2.2.2.1, s79.2.2.2.2.1, s79.2.2.2.2.2.1, s79.2.2.2.2.2.2.1, s79.2.2.2.2.2.2.2.1, ()) h85))) fun j81 =>
pWant v78 false (
pInt .gtr s75.2.2.1 (.int .i64 (.ofNat 63)) fun v108 =>
j81 (v108, v78, s75.2.2.1, s75.2.2.2.1, s75.2.2.2.2.1, s75.2.2.2.2.2.1, s75.2.2.2.2.2.2.1, s75.2.2.2.2.2.2.2.1, ()) h76) (
j81 (.undef, v78, s75.2.2.1, s75.2.2.2.1, s75.2.2.2.2.1, s75.2.2.2.2.2.1, s75.2.2.2.2.2.2.1, s75.2.2.2.2.2.2.2.1, ()) h76)) fun j77 =>
pWant v74 false (
pInt .lss v72 (.int .i64 (.ofNat 1)) fun v109 =>
j77 (v109, v74, v72, s67.2.2.2.1, s67.2.2.2.2.1, s67.2.2.2.2.2.1, s67.2.2.2.2.2.2.1, s67.2.2.2.2.2.2.2.1, ()) h73) (
j77 (.undef, v74, v72, s67.2.2.2.1, s67.2.2.2.2.1, s67.2.2.2.2.2.1, s67.2.2.2.2.2.2.1, s67.2.2.2.2.2.2.2.1, ()) h73))) fun j69 =>
pWant v66 false (
pCall c (.fn 25 [] []) [s54.2.2.1, s54.2.1] h63 fun v110 h111 =>
pUn .not v110 fun v112 =>
j69 (v112, v66, v59, s54.1, s54.2.1, s54.2.2.1, s54.2.2.2.1, s54.2.2.2.2.1, ()) h111) (
j69 (.undef, v66, v59, s54.1, s54.2.1, s54.2.2.1, s54.2.2.2.1, s54.2.2.2.2.1, ()) h63)) (
pLeave d56 h55 fun h113 =>
some ((.bool true), h113))) ((.int .i64 (.ofNat 0)), v50, v48, s37.2.2.2.1, s37.2.2.2.2.1, ()) h51 d33))) fun j39 =>
pWant v36 true (
pInt .lss s31.1 (.int .i64 (.ofNat 14)) fun v114 =>
j39 (v114, v36, s31.1, s31.2.1, s31.2.2.1, s31.2.2.2.1, ()) h32) (
j39 (.undef, v36, s31.1, s31.2.1, s31.2.2.1, s31.2.2.2.1, ()) h32)) ((.int .i64 (.ofNat 0)), s13.2.2.2.1, s13.2.2.2.2.1, s13.2.2.2.2.2.1, ()) h14 d9)) fun j15 =>
pWant v12 true (
pInt .lss s7.1 (.int .i64 (.ofNat 64)) fun v115 =>
j15 (v115, v12, s7.1, s7.2.1, s7.2.2.1, s7.2.2.2.1, s7.2.2.2.2.1, ()) h8) (
j15 (.undef, v12, s7.1, s7.2.1, s7.2.2.1, s7.2.2.2.1, s7.2.2.2.2.1, ()) h8)) ((.int .i64 (.ofNat 0)), v5, v0, a1, a0, ()) h6 [])
theorem S7_eq (c : CV) (a0 a1 a2 : AV) (h : AH) : enterK Try.prog NN P7 c 7 [a0, a1, a2] h = S7 c a0 a1 a2 h := by kernel_rfl
def W7 (c : CV) (l : List AV) (h : AH) : R := match l with | [a0, a1, a2] => S7 c a0 a1 a2 h | _ => none
theorem W7_ok : WOk Try.prog 7 W7 := by
  intro c l h r e
  unfold W7 at e
  split at e
  · exact ⟨P7, by rw [S7_eq]; exact e⟩
  · cases e
/- quietus/quietuslaw11.ArenaWords -/
def P8 : Pl := (.n none .z (.n none .z (.n none .z (.n none .z (.n (some [9]) (.n none .z (.n none (.n none (.n none (.n (some [9, 2, 1]) .z .z) .z) (.n none (.n none .z (.n none (.n (some [10, 9, 2, 1]) .z .z) .z)) (.n none .z (.n none .z (.n none (.n (some [11, 9, 2]) (.n none (.n none (.r [[65, 63, 11, 9, 2]]) .z) .z) .z) .z))))) .z)) (.n none .z (.n none .z (.n none .z (.n none .z (.n none (.n none (.r [[106, 103, 19, 18, 17, 16, 14, 13, 12], [108, 106, 103, 19, 18, 17, 16, 14, 12], [109, 103, 19, 18, 17, 16, 14, 12], [115, 111, 19, 18, 17, 16], [121, 117, 19, 18, 17, 16], [126, 123, 18, 17, 16], [128, 126, 123, 18, 16], [129, 123, 18, 16], [136, 131, 18, 16]]) .z) (.n none (.n none .z (.n none (.n (some [20, 18, 16]) .z .z) .z)) .z)))))))))))
def S8 (c : CV) (a0 a1 a2 a3 : AV) (h : AH) : R :=
pCall c (.fn 3 [] []) [] h fun v0 h1 =>
pUn .not v0 fun v2 =>
pCond v2 (
some ((.bool false), h1)) (
pLenS a0 fun v3 =>
pInt .gtr v3 (.int .i64 (.ofNat 300)) fun v4 =>
pCond v4 (
some ((.bool true), h1)) (
pAppend h1 43 1 .nils a0 fun v5 h6 =>
joinC (α := AV × Unit → AH → List Nat → R) (fun s7 h8 d9 =>
pCall c (.fn 31 [] []) [s7.1] h8 fun v11 h12 =>
pExtract v11 0 fun v13 =>
pExtract v11 1 fun v14 =>
pCall c (.fn 32 [] []) [s7.1] h12 fun v15 h16 =>
pExtract v15 0 fun v17 =>
pExtract v15 1 fun v18 =>
pCall c (.fn 33 [] []) [s7.1] h16 fun v19 h20 =>
pExtract v19 0 fun v21 =>
pExtract v19 1 fun v22 =>
pCall c (.fn 34 [] []) [s7.1] h20 fun v23 h24 =>
pExtract v23 0 fun v25 =>
pExtract v23 1 fun v26 =>
pInt .eql v14 (.int .i64 (.ofNat 0)) fun v27 =>
pEq .bool true v27 v18 fun v28 =>
joinC (α := AV × AV × AV × AV × AV × AV × AV × AV × AV × Unit → AH → R) (fun s29 h30 =>
joinC (α := AV × AV × AV × AV × AV × AV × AV × AV × AV × Unit → AH → R) (fun s32 h33 =>
joinC (α := AV × AV × AV × AV × AV × AV × AV × AV × Unit → AH → R) (fun s35 h36 =>
pPick s35.2.1 (.bool true) s35.1 fun v38 =>
joinC (α := AV × AV × AV × AV × AV × AV × Unit → AH → R) (fun s39 h40 =>
pPick s39.2.1 (.bool true) s39.1 fun v42 =>
joinC (α := AV × AV × AV × AV × AV × AV × Unit → AH → R) (fun s43 h44 =>
pPick s43.2.1 (.bool true) s43.1 fun v46 =>
joinC (α := AV × AV × AV × AV × AV × Unit → AH → R) (fun s47 h48 =>
joinC (α := AV × AV × AV × AV × AV × Unit → AH → R) (fun s50 h51 =>
joinC (α := AV × AV × AV × AV × Unit → AH → R) (fun s53 h54 =>
pPick s53.2.1 (.bool true) s53.1 fun v56 =>
joinC (α := AV × AV × AV × AV × Unit → AH → R) (fun s57 h58 =>
pPick s57.2.1 (.bool true) s57.1 fun v60 =>
pCond v60 (
pLeave d9 h58 fun h61 =>
some ((.bool false), h61)) (
loopC (σ := AV × AV × AV × Unit) NN (fun i65 s62 h63 d64 =>
pLenS s62.2.2.1 fun v66 =>
pInt .lss s62.1 v66 fun v67 =>
pCond v67 (
pIdxS s62.2.2.1 s62.1 1 fun v68 =>
pLoad1 h63 v68 fun v69 =>
pIdxS s62.2.1 s62.1 1 fun v70 =>
pLoad1 h63 v70 fun v71 =>
pCall c (.fn 36 [] []) [v69, v71] h63 fun v72 h73 =>
pUn .not v72 fun v74 =>
pCond v74 (
pLeave d64 h73 fun h75 =>
some ((.bool false), h75)) (
pInt .add s62.1 (.int .i64 (.ofNat 1)) fun v76 =>
i65 (v76, s62.2.1, s62.2.2.1, ()) h73 d64)) (
pLeave d64 h63 fun h77 =>
some ((.bool true), h77))) ((.int .i64 (.ofNat 0)), s57.2.2.1, s57.2.2.2.1, ()) h58 d9)) fun j59 =>
pWant v56 false (
pLenS s53.2.2.2.1 fun v78 =>
pLenS s53.2.2.1 fun v79 =>
pInt .neq v78 v79 fun v80 =>
j59 (v80, v56, s53.2.2.1, s53.2.2.2.1, ()) h54) (
j59 (.undef, v56, s53.2.2.1, s53.2.2.2.1, ()) h54)) fun j55 =>
pWant s50.2.2.1 false (
pPick s50.2.1 s50.1 (.bool false) fun v81 =>
j55 (v81, s50.2.2.1, s50.2.2.2.1, s50.2.2.2.2.1, ()) h51) (
j55 (.undef, s50.2.2.1, s50.2.2.2.1, s50.2.2.2.2.1, ()) h51)) fun j52 =>
pWant s47.1 true (
pInt .neq s47.2.2.2.1 (.int .i64 (.ofNat 12)) fun v82 =>
j52 (v82, s47.1, s47.2.1, s47.2.2.1, s47.2.2.2.2.1, ()) h48) (
j52 (.undef, s47.1, s47.2.1, s47.2.2.1, s47.2.2.2.2.1, ()) h48)) fun j49 =>
pWant v46 false (
pUn .not s43.2.2.1 fun v83 =>
j49 (v83, v46, s43.2.2.2.1, s43.2.2.2.2.1, s43.2.2.2.2.2.1, ()) h44) (
j49 (.undef, v46, s43.2.2.2.1, s43.2.2.2.2.1, s43.2.2.2.2.2.1, ()) h44)) fun j45 =>
pWant v42 false (
pInt .eql s39.2.2.2.2.1 (.int .i64 (.ofNat 0)) fun v84 =>
pEq .bool true v84 s39.2.2.1 fun v85 =>
j45 (v85, v42, s39.2.2.1, s39.2.2.2.1, s39.2.2.2.2.1, s39.2.2.2.2.2.1, ()) h40) (
j45 (.undef, v42, s39.2.2.1, s39.2.2.2.1, s39.2.2.2.2.1, s39.2.2.2.2.2.1, ()) h40)) fun j41 =>
pWant v38 false (
pCall c (.fn 35 [] []) [s35.2.2.2.2.2.2.2.1, s35.2.2.2.2.2.2.1] h36 fun v86 h87 =>
pUn .not v86 fun v88 =>
j41 (v88, v38, s35.2.2.1, s35.2.2.2.1, s35.2.2.2.2.1, s35.2.2.2.2.2.1, ()) h87) (
j41 (.undef, v38, s35.2.2.1, s35.2.2.2.1, s35.2.2.2.2.1, s35.2.2.2.2.2.1, ()) h36)) fun j37 =>
pWant s32.2.2.1 false (
pPick s32.2.1 s32.1 (.bool false) fun v89 =>
j37 (v89, s32.2.2.1, s32.2.2.2.1, s32.2.2.2.2.1, s32.2.2.2.2.2.1, s32.2.2.2.2.2.2.1, s32.2.2.2.2.2.2.2.1, s32.2.2.2.2.2.2.2.2.1, ()) h33) (
j37 (.undef, s32.2.2.1, s32.2.2.2.1, s32.2.2.2.2.1, s32.2.2.2.2.2.1, s32.2.2.2.2.2.2.1, s32.2.2.2.2.2.2.2.1, s32.2.2.2.2.2.2.2.2.1, ()) h33)) fun j34 =>
pWant s29.1 true (
pInt .neq s29.2.2.2.2.2.2.2.1 (.int .i64 (.ofNat 12)) fun v90 =>
j34 (v90, s29.1, s29.2.1, s29.2.2.1, s29.2.2.2.1, s29.2.2.2.2.1, s29.2.2.2.2.2.1, s29.2.2.2.2.2.2.1, s29.2.2.2.2.2.2.2.2.1, ()) h30) (
j34 (.undef, s29.1, s29.2.1, s29.2.2.1, s29.2.2.2.1, s29.2.2.2.2.1, s29.2.2.2.2.2.1, s29.2.2.2.2.2.2.1, s29.2.2.2.2.2.2.2.2.1, ()) h30)) fun j31 =>
pWant v28 false (
pUn .not v18 fun v91 =>
j31 (v91, v28, v26, v25, v22, v21, v17, v14, v13, ()) h24) (
j31 (.undef, v28, v26, v25, v22, v21, v17, v14, v13, ()) h24)) fun j10 =>
pUn .not a3 fun v92 =>
pCond v92 (
loopC (σ := AV × AV × AV × Unit) NN (fun i96 s93 h94 d95 =>
pLenS s93.1 fun v97 =>
pInt .lss v97 (.int .i64 (.ofNat 64)) fun v98 =>
pCond v98 (
pLenS s93.1 fun v99 =>
pInt .rem v99 (.int .i64 (.ofNat 5)) fun v100 =>
pConvI .u64 v100 fun v101 =>
pBuildS h94 43 [(.int .u64 (.ofNat 0))] 1 [(0, 1, v101)] fun v102 h103 =>
pAppend h103 43 1 s93.1 v102 fun v104 h105 =>
i96 (v104, s93.2.1, s93.2.2.1, ()) h105 d95) (
loopC (σ := AV × AV × AV × AV × Unit) NN (fun i109 s106 h107 d108 =>
pLenS s106.2.1 fun v110 =>
pInt .lss s106.1 v110 fun v111 =>
pCond v111 (
pIdxS s106.2.1 s106.1 1 fun v112 =>
pLoad1 h107 v112 fun v113 =>
pInt .rem v113 (.int .u64 (.ofNat 14)) fun v114 =>
pIdxS s106.2.1 s106.1 1 fun v115 =>
pStore h107 v115 v114 1 fun h116 =>
pInt .add s106.1 (.int .i64 (.ofNat 1)) fun v117 =>
i109 (v117, s106.2.1, s106.2.2.1, s106.2.2.2.1, ()) h116 d108) (
pInt .rem s106.2.2.2.1 (.int .u16 (.ofNat 70)) fun v118 =>
pConvI .u64 v118 fun v119 =>
pIdxS s106.2.1 (.int .i64 (.ofNat 5)) 1 fun v120 =>
pStore h107 v120 v119 1 fun h121 =>
loopC (σ := AV × AV × AV × Unit) NN (fun i125 s122 h123 d124 =>
pLenS s122.2.2.1 fun v126 =>
pInt .lss s122.1 v126 fun v127 =>
joinC (α := AV × AV × AV × AV × AV × Unit → AH → R) (fun s128 h129 =>
pPick s128.2.1 s128.1 (.bool false) fun v131 =>
pCond v131 (
pInt .add (.int .i64 (.ofNat 1)) s128.2.2.1 fun v132 =>
pIdxS s128.2.2.2.2.1 s128.2.2.1 1 fun v133 =>
pLoad1 h129 v133 fun v134 =>
pInt .rem v134 (.int .u8 (.ofNat 70)) fun v135 =>
pConvI .u64 v135 fun v136 =>
pIdxS s128.2.2.2.1 v132 1 fun v137 =>
pStore h129 v137 v136 1 fun h138 =>
pInt .add s128.2.2.1 (.int .i64 (.ofNat 1)) fun v139 =>
i125 (v139, s128.2.2.2.1, s128.2.2.2.2.1, ()) h138 d124) (
j10 (s128.2.2.2.1, ()) h129 d124)) fun j130 =>
pWant v127 true (
pInt .lss s122.1 (.int .i64 (.ofNat 4)) fun v140 =>
j130 (v140, v127, s122.1, s122.2.1, s122.2.2.1, ()) h123) (
j130 (.undef, v127, s122.1, s122.2.1, s122.2.2.1, ()) h123)) ((.int .i64 (.ofNat 0)), s106.2.1, s106.2.2.1, ()) h121 d108)) ((.int .i64 (.ofNat 0)), s93.1, s93.2.1, s93.2.2.1, ()) h94 d95)) (v5, a2, a1, ()) h6 []) (
j10 (v5, ()) h6 [])))
theorem S8_eq (c : CV) (a0 a1 a2 a3 : AV) (h : AH) : enterK Try.prog NN P8 c 8 [a0, a1, a2, a3] h = S8 c a0 a1 a2 a3 h := by kernel_rfl
def W8 (c : CV) (l : List AV) (h : AH) : R := match l with | [a0, a1, a2, a3] => S8 c a0 a1 a2 a3 h | _ => none
theorem W8_ok : WOk Try.prog 8 W8 := by
  intro c l h r e
  unfold W8 at e
  split at e
  · exact ⟨P8, by rw [S8_eq]; exact e⟩
  · cases e
/- quietus/quietuslaw11.ArenaParts -/
def P9 : Pl := (.n none .z (.n none .z (.n none .z (.n none .z (.n none (.n none .z (.n none (.n (some [7, 6, 5, 1]) (.n none (.n none (.r [[25, 23, 7, 6, 5, 1]]) .z) (.n none (.n (some [7, 6, 5, 1]) (.n none .z (.n none .z (.n none .z (.n none (.n none .z (.n (some [8, 7, 6, 5, 1]) (.n none .z (.n none .z (.n none .z (.n none .z (.n none .z (.n none (.n none (.r [[61, 58, 13, 12, 8, 7, 6, 5, 1], [63, 61, 58, 13, 12, 8, 7, 6, 5, 1], [65, 58, 13, 12, 8, 7, 6, 5, 1], [70, 65, 58, 13, 12, 8, 7, 6, 5, 1], [72, 58, 13, 12, 8, 7, 6, 5, 1], [77, 72, 58, 13, 12, 8, 7, 6, 5, 1], [78, 58, 13, 12, 8, 7, 6, 5, 1], [83, 80, 13, 12, 8, 7, 6, 5, 1], [85, 83, 80, 13, 12, 8, 7, 6, 5, 1], [86, 80, 13, 12, 8, 7, 6, 5, 1]]) .z) .z)))))) .z)) .z)))) .z) .z)) .z) .z)) .z)))))
def S9 (c : CV) (a0 a1 : AV) (h : AH) : R :=
pCall c (.fn 3 [] []) [] h fun v0 h1 =>
pUn .not v0 fun v2 =>
pCond v2 (
some ((.bool false), h1)) (
pCall c (.fn 11 [] []) [a0] h1 fun v3 h4 =>
pMake h4 3 [(.int .i64 (.ofNat 0))] (.int .i64 (.ofNat 257)) (.int .i64 (.ofNat 257)) fun v5 h6 =>
loopC (σ := AV × AV × AV × AV × Unit) NN (fun i10 s7 h8 d9 =>
pLenS s7.2.2.2.1 fun v11 =>
pInt .lss s7.1 v11 fun v12 =>
joinC (α := AV × AV × AV × AV × AV × AV × Unit → AH → R) (fun s13 h14 =>
pPick s13.2.1 s13.1 (.bool false) fun v16 =>
pCond v16 (
joinC (α := AV × AV × AV × AV × Unit → AH → List Nat → R) (fun s17 h18 d19 =>
pInt .add s17.1 (.int .i64 (.ofNat 1)) fun v21 =>
i10 (v21, s17.2.1, s17.2.2.1, s17.2.2.2.1, ()) h18 d19) fun j20 =>
pCall c (.fn 10 [] []) [s13.2.2.2.2.1, (.int .i64 (.ofNat 96))] h14 fun v22 h23 =>
pEq .ptr false v22 .nilp fun v24 =>
pCond v24 (
pLeave d9 h23 fun h25 =>
some ((.bool false), h25)) (
pIdxS s13.2.2.2.2.2.1 s13.2.2.1 3 fun v26 =>
pFieldA v26 1 fun v27 =>
pLoad1 h23 v27 fun v28 =>
pCall c (.fn 37 [] []) [v28, (.int .i64 (.ofNat 1)), (.int .i64 (.ofNat 255))] h23 fun v29 h30 =>
pIdxS s13.2.2.2.2.2.1 s13.2.2.1 3 fun v31 =>
pFieldA v31 0 fun v32 =>
pLoad1 h30 v32 fun v33 =>
pCall c (.fn 37 [] []) [v33, (.int .i64 (.ofNat 0)), (.int .i64 (.ofNat 5))] h30 fun v34 h35 =>
joinC (α := AV × AV × AV × AV × AV × Unit → AH → List Nat → R) (fun s36 h37 d38 =>
pCall c (.fn 19 [] []) [s36.1] h37 fun v40 h41 =>
pCall c (.fn 20 [] []) [s36.2.2.2.1, v40] h41 fun v42 h43 =>
j20 (s36.2.1, s36.2.2.1, v42, s36.2.2.2.2.1, ()) h43 d38) fun j39 =>
pInt .eql v34 (.int .i64 (.ofNat 0)) fun v44 =>
pCond v44 (
pCall c (.fn 13 [] []) [v22, v29] h35 fun v45 h46 =>
pInt .eql v45 (.int .i64 (.ofNat 0)) fun v47 =>
pIdxS s13.2.2.2.1 v29 1 fun v48 =>
pLoad1 h46 v48 fun v49 =>
pInt .eql v49 (.int .i64 (.ofNat 1)) fun v50 =>
pEq .bool true v47 v50 fun v51 =>
pCond v51 (
pLeave d9 h46 fun h52 =>
some ((.bool false), h52)) (
pInt .eql v45 (.int .i64 (.ofNat 0)) fun v53 =>
pCond v53 (
pIdxS s13.2.2.2.1 v29 1 fun v54 =>
pStore h46 v54 (.int .i64 (.ofNat 2)) 1 fun h55 =>
j39 (v22, s13.2.2.1, s13.2.2.2.1, s13.2.2.2.2.1, s13.2.2.2.2.2.1, ()) h55 d9) (
j39 (v22, s13.2.2.1, s13.2.2.2.1, s13.2.2.2.2.1, s13.2.2.2.2.2.1, ()) h46 d9))) (
pInt .eql v34 (.int .i64 (.ofNat 1)) fun v56 =>
pCond v56 (
pIdxS s13.2.2.2.1 v29 1 fun v57 =>
pLoad1 h35 v57 fun v58 =>
pInt .eql v58 (.int .i64 (.ofNat 3)) fun v59 =>
pCond v59 (
j20 (s13.2.2.1, s13.2.2.2.1, s13.2.2.2.2.1, s13.2.2.2.2.2.1, ()) h35 d9) (
pCall c (.fn 14 [] []) [v22, v29] h35 fun v60 h61 =>
pInt .eql v60 (.int .i64 (.ofNat 0)) fun v62 =>
pIdxS s13.2.2.2.1 v29 1 fun v63 =>
pLoad1 h61 v63 fun v64 =>
pInt .eql v64 (.int .i64 (.ofNat 2)) fun v65 =>
pEq .bool true v62 v65 fun v66 =>
pCond v66 (
pLeave d9 h61 fun h67 =>
some ((.bool false), h67)) (
pInt .eql v60 (.int .i64 (.ofNat 0)) fun v68 =>
pCond v68 (
pIdxS s13.2.2.2.1 v29 1 fun v69 =>
pStore h61 v69 (.int .i64 (.ofNat 3)) 1 fun h70 =>
j39 (v22, s13.2.2.1, s13.2.2.2.1, s13.2.2.2.2.1, s13.2.2.2.2.2.1, ()) h70 d9) (
j39 (v22, s13.2.2.1, s13.2.2.2.1, s13.2.2.2.2.1, s13.2.2.2.2.2.1, ()) h61 d9)))) (
pIdxS s13.2.2.2.2.2.1 s13.2.2.1 3 fun v71 =>
pFieldA v71 1 fun v72 =>
pLoad1 h35 v72 fun v73 =>
pCall c (.fn 37 [] []) [v73, (.int .i64 (.ofNat 1)), (.int .i64 (.ofNat 16))] h35 fun v74 h75 =>
pCall c (.fn 12 [] []) [v22, v74] h75 fun v76 h77 =>
pExtract v76 0 fun v78 =>
pExtract v76 1 fun v79 =>
pInt .eql v79 (.int .i64 (.ofNat 0)) fun v80 =>
joinC (α := AV × AV × AV × AV × AV × AV × AV × AV × AV × Unit → AH → R) (fun s81 h82 =>
joinC (α := AV × AV × AV × AV × AV × AV × AV × AV × AV × AV × Unit → AH → R) (fun s84 h85 =>
joinC (α := AV × AV × AV × AV × AV × AV × AV × AV × AV × Unit → AH → R) (fun s87 h88 =>
joinC (α := AV × AV × AV × AV × AV × AV × AV × AV × AV × AV × Unit → AH → R) (fun s90 h91 =>
joinC (α := AV × AV × AV × AV × AV × AV × AV × AV × AV × Unit → AH → R) (fun s93 h94 =>
joinC (α := AV × AV × AV × AV × AV × AV × AV × AV × AV × AV × Unit → AH → R) (fun s96 h97 =>
joinC (α := AV × AV × AV × AV × AV × AV × AV × AV × AV × Unit → AH → R) (fun s99 h100 =>
pPick s99.2.1 s99.1 (.bool false) fun v102 =>
joinC (α := AV × AV × AV × AV × AV × AV × AV × AV × AV × Unit → AH → R) (fun s103 h104 =>
joinC (α := AV × AV × AV × AV × AV × AV × AV × AV × AV × AV × Unit → AH → R) (fun s106 h107 =>
joinC (α := AV × AV × AV × AV × AV × AV × AV × AV × AV × Unit → AH → R) (fun s109 h110 =>
pPick s109.2.1 (.bool true) s109.1 fun v112 =>
pCond v112 (
pLeave d9 h110 fun h113 =>
some ((.bool false), h113)) (
pInt .eql s109.2.2.1 (.int .i64 (.ofNat 0)) fun v114 =>
pCond v114 (
pIdxS s109.2.2.2.2.2.2.1 s109.2.2.2.1 1 fun v115 =>
pStore h110 v115 (.int .i64 (.ofNat 1)) 1 fun h116 =>
j39 (s109.2.2.2.2.1, s109.2.2.2.2.2.1, s109.2.2.2.2.2.2.1, s109.2.2.2.2.2.2.2.1, s109.2.2.2.2.2.2.2.2.1, ()) h116 d9) (
j39 (s109.2.2.2.2.1, s109.2.2.2.2.2.1, s109.2.2.2.2.2.2.1, s109.2.2.2.2.2.2.2.1, s109.2.2.2.2.2.2.2.2.1, ()) h110 d9))) fun j111 =>
pWant s106.2.2.1 false (
pPick s106.2.1 s106.1 (.bool false) fun v117 =>
j111 (v117, s106.2.2.1, s106.2.2.2.1, s106.2.2.2.2.1, s106.2.2.2.2.2.1, s106.2.2.2.2.2.2.1, s106.2.2.2.2.2.2.2.1, s106.2.2.2.2.2.2.2.2.1, s106.2.2.2.2.2.2.2.2.2.1, ()) h107) (
j111 (.undef, s106.2.2.1, s106.2.2.2.1, s106.2.2.2.2.1, s106.2.2.2.2.2.1, s106.2.2.2.2.2.2.1, s106.2.2.2.2.2.2.2.1, s106.2.2.2.2.2.2.2.2.1, s106.2.2.2.2.2.2.2.2.2.1, ()) h107)) fun j108 =>
pWant s103.1 true (
pInt .neq s103.2.2.1 (.int .i64 (.ofNat 4)) fun v118 =>
j108 (v118, s103.1, s103.2.1, s103.2.2.1, s103.2.2.2.1, s103.2.2.2.2.1, s103.2.2.2.2.2.1, s103.2.2.2.2.2.2.1, s103.2.2.2.2.2.2.2.1, s103.2.2.2.2.2.2.2.2.1, ()) h104) (
j108 (.undef, s103.1, s103.2.1, s103.2.2.1, s103.2.2.2.1, s103.2.2.2.2.1, s103.2.2.2.2.2.1, s103.2.2.2.2.2.2.1, s103.2.2.2.2.2.2.2.1, s103.2.2.2.2.2.2.2.2.1, ()) h104)) fun j105 =>
pWant v102 false (
pInt .neq s99.2.2.1 (.int .i64 (.ofNat 0)) fun v119 =>
j105 (v119, v102, s99.2.2.1, s99.2.2.2.1, s99.2.2.2.2.1, s99.2.2.2.2.2.1, s99.2.2.2.2.2.2.1, s99.2.2.2.2.2.2.2.1, s99.2.2.2.2.2.2.2.2.1, ()) h100) (
j105 (.undef, v102, s99.2.2.1, s99.2.2.2.1, s99.2.2.2.2.1, s99.2.2.2.2.2.1, s99.2.2.2.2.2.2.1, s99.2.2.2.2.2.2.2.1, s99.2.2.2.2.2.2.2.2.1, ()) h100)) fun j101 =>
pWant s96.2.2.1 true (
pPick s96.2.1 (.bool true) s96.1 fun v120 =>
j101 (v120, s96.2.2.1, s96.2.2.2.1, s96.2.2.2.2.1, s96.2.2.2.2.2.1, s96.2.2.2.2.2.2.1, s96.2.2.2.2.2.2.2.1, s96.2.2.2.2.2.2.2.2.1, s96.2.2.2.2.2.2.2.2.2.1, ()) h97) (
j101 (.undef, s96.2.2.1, s96.2.2.2.1, s96.2.2.2.2.1, s96.2.2.2.2.2.1, s96.2.2.2.2.2.2.1, s96.2.2.2.2.2.2.2.1, s96.2.2.2.2.2.2.2.2.1, s96.2.2.2.2.2.2.2.2.2.1, ()) h97)) fun j98 =>
pWant s93.1 false (
pIdxS s93.2.2.2.2.2.2.1 s93.2.2.2.1 1 fun v121 =>
pLoad1 h94 v121 fun v122 =>
pInt .eql v122 (.int .i64 (.ofNat 2)) fun v123 =>
j98 (v123, s93.1, s93.2.1, s93.2.2.1, s93.2.2.2.1, s93.2.2.2.2.1, s93.2.2.2.2.2.1, s93.2.2.2.2.2.2.1, s93.2.2.2.2.2.2.2.1, s93.2.2.2.2.2.2.2.2.1, ()) h94) (
j98 (.undef, s93.1, s93.2.1, s93.2.2.1, s93.2.2.2.1, s93.2.2.2.2.1, s93.2.2.2.2.2.1, s93.2.2.2.2.2.2.1, s93.2.2.2.2.2.2.2.1, s93.2.2.2.2.2.2.2.2.1, ()) h94)) fun j95 =>
pWant s90.2.2.1 true (
pPick s90.2.1 (.bool true) s90.1 fun v124 =>
j95 (v124, s90.2.2.1, s90.2.2.2.1, s90.2.2.2.2.1, s90.2.2.2.2.2.1, s90.2.2.2.2.2.2.1, s90.2.2.2.2.2.2.2.1, s90.2.2.2.2.2.2.2.2.1, s90.2.2.2.2.2.2.2.2.2.1, ()) h91) (
j95 (.undef, s90.2.2.1, s90.2.2.2.1, s90.2.2.2.2.1, s90.2.2.2.2.2.1, s90.2.2.2.2.2.2.1, s90.2.2.2.2.2.2.2.1, s90.2.2.2.2.2.2.2.2.1, s90.2.2.2.2.2.2.2.2.2.1, ()) h91)) fun j92 =>
pWant s87.1 false (
pIdxS s87.2.2.2.2.2.2.1 s87.2.2.2.1 1 fun v125 =>
pLoad1 h88 v125 fun v126 =>
pInt .eql v126 (.int .i64 (.ofNat 1)) fun v127 =>
j92 (v127, s87.1, s87.2.1, s87.2.2.1, s87.2.2.2.1, s87.2.2.2.2.1, s87.2.2.2.2.2.1, s87.2.2.2.2.2.2.1, s87.2.2.2.2.2.2.2.1, s87.2.2.2.2.2.2.2.2.1, ()) h88) (
j92 (.undef, s87.1, s87.2.1, s87.2.2.1, s87.2.2.2.1, s87.2.2.2.2.1, s87.2.2.2.2.2.1, s87.2.2.2.2.2.2.1, s87.2.2.2.2.2.2.2.1, s87.2.2.2.2.2.2.2.2.1, ()) h88)) fun j89 =>
pWant s84.2.2.1 true (
pPick s84.2.1 (.bool true) s84.1 fun v128 =>
j89 (v128, s84.2.2.1, s84.2.2.2.1, s84.2.2.2.2.1, s84.2.2.2.2.2.1, s84.2.2.2.2.2.2.1, s84.2.2.2.2.2.2.2.1, s84.2.2.2.2.2.2.2.2.1, s84.2.2.2.2.2.2.2.2.2.1, ()) h85) (
j89 (.undef, s84.2.2.1, s84.2.2.2.1, s84.2.2.2.2.1, s84.2.2.2.2.2.1, s84.2.2.2.2.2.2.1, s84.2.2.2.2.2.2.2.1, s84.2.2.2.2.2.2.2.2.1, s84.2.2.2.2.2.2.2.2.2.1, ()) h85)) fun j86 =>
pWant s81.1 false (
pInt .geq s81.2.2.2.1 (.int .i64 (.ofNat 256)) fun v129 =>
j86 (v129, s81.1, s81.2.1, s81.2.2.1, s81.2.2.2.1, s81.2.2.2.2.1, s81.2.2.2.2.2.1, s81.2.2.2.2.2.2.1, s81.2.2.2.2.2.2.2.1, s81.2.2.2.2.2.2.2.2.1, ()) h82) (
j86 (.undef, s81.1, s81.2.1, s81.2.2.1, s81.2.2.2.1, s81.2.2.2.2.1, s81.2.2.2.2.2.1, s81.2.2.2.2.2.2.1, s81.2.2.2.2.2.2.2.1, s81.2.2.2.2.2.2.2.2.1, ()) h82)) fun j83 =>
pWant v80 true (
pInt .lss v78 (.int .i64 (.ofNat 1)) fun v130 =>
j83 (v130, v80, v79, v78, v22, s13.2.2.1, s13.2.2.2.1, s13.2.2.2.2.1, s13.2.2.2.2.2.1, ()) h77) (
j83 (.undef, v80, v79, v78, v22, s13.2.2.1, s13.2.2.2.1, s13.2.2.2.2.1, s13.2.2.2.2.2.1, ()) h77))))) (
pCall c (.fn 38 [] []) [s13.2.2.2.2.1, s13.2.2.2.1] h14 fun v131 h132 =>
pLeave d9 h132 fun h133 =>
some (v131, h133))) fun j15 =>
pWant v12 true (
pInt .lss s7.1 (.int .i64 (.ofNat 60)) fun v134 =>
j15 (v134, v12, s7.1, s7.2.1, s7.2.2.1, s7.2.2.2.1, ()) h8) (
j15 (.undef, v12, s7.1, s7.2.1, s7.2.2.1, s7.2.2.2.1, ()) h8)) ((.int .i64 (.ofNat 0)), v5, v3, a1, ()) h6 [])
theorem S9_eq (c : CV) (a0 a1 : AV) (h : AH) : enterK Try.prog NN P9 c 9 [a0, a1] h = S9 c a0 a1 h := by kernel_rfl
def W9 (c : CV) (l : List AV) (h : AH) : R := match l with | [a0, a1] => S9 c a0 a1 h | _ => none
theorem W9_ok : WOk Try.prog 9 W9 := by
  intro c l h r e
  unfold W9 at e
  split at e
  · exact ⟨P9, by rw [S9_eq]; exact e⟩
  · cases e
/- quietus/view.Whole -/
def P10 : Pl := (.n none .z (.n none .z (.n none (.n none .z (.n none (.n (some [6, 5, 0]) (.n none .z (.n none (.n none (.n none .z (.n (some [7, 6, 5, 0]) .z .z)) .z) .z)) .z) .z)) .z)))
def S10 (c : CV) (a0 a1 : AV) (h : AH) : R :=
pLenS a0 fun v0 =>
pCall c (.fn 26 [] []) [v0, a1] h fun v1 h2 =>
loopC (σ := AV × AV × AV × Unit) NN (fun i6 s3 h4 d5 =>
pCall c (.fn 39 [] []) [s3.2.1] h4 fun v7 h8 =>
pInt .lss s3.1 v7 fun v9 =>
pCond v9 (
joinC (α := AV × AV × AV × AV × Unit → AH → List Nat → R) (fun s10 h11 d12 =>
pCall c (.fn 29 [] []) [s10.2.2.1, s10.2.1, s10.1] h11 fun _ h15 =>
pInt .add s10.2.1 (.int .i64 (.ofNat 1)) fun v16 =>
i6 (v16, s10.2.2.1, s10.2.2.2.1, ()) h15 d12) fun j13 =>
pLenS s3.2.2.1 fun v17 =>
pInt .lss s3.1 v17 fun v18 =>
pCond v18 (
pIdxS s3.2.2.1 s3.1 1 fun v19 =>
pLoad1 h8 v19 fun v20 =>
j13 (v20, s3.1, s3.2.1, s3.2.2.1, ()) h8 d5) (
j13 ((.int .u64 (.ofNat 0)), s3.1, s3.2.1, s3.2.2.1, ()) h8 d5)) (
pLeave d5 h8 fun h21 =>
some (s3.2.1, h21))) ((.int .i64 (.ofNat 1)), v1, a0, ()) h2 []
theorem S10_eq (c : CV) (a0 a1 : AV) (h : AH) : enterK Try.prog NN P10 c 10 [a0, a1] h = S10 c a0 a1 h := by kernel_rfl
def W10 (c : CV) (l : List AV) (h : AH) : R := match l with | [a0, a1] => S10 c a0 a1 h | _ => none
theorem W10_ok : WOk Try.prog 10 W10 := by
  intro c l h r e
  unfold W10 at e
  split at e
  · exact ⟨P10, by rw [S10_eq]; exact e⟩
  · cases e
/- quietus/arena.Fresh -/
def P11 : Pl := .z
def S11 (_ : CV) (a0 : AV) (h : AH) : R :=
pMM false [a0, (.int .i64 (.ofNat 256))] fun v0 =>
pMM true [(.int .i64 (.ofNat 32)), v0] fun v1 =>
pMake h 43 [(.int .u64 (.ofNat 0))] v1 v1 fun v2 h3 =>
pIdxS v2 (.int .i64 (.ofNat 5)) 1 fun v4 =>
pStore h3 v4 (.int .u64 (.ofNat 14)) 1 fun h5 =>
some (v2, h5)
theorem S11_eq (c : CV) (a0 : AV) (h : AH) : enterK Try.prog NN P11 c 11 [a0] h = S11 c a0 h := by kernel_rfl
def W11 (c : CV) (l : List AV) (h : AH) : R := match l with | [a0] => S11 c a0 h | _ => none
theorem W11_ok : WOk Try.prog 11 W11 := by
  intro c l h r e
  unfold W11 at e
  split at e
  · exact ⟨P11, by rw [S11_eq]; exact e⟩
  · cases e
/- quietus/arena.Alloc -/
def P12 : Pl := .z
def S12 (c : CV) (a0 a1 : AV) (h : AH) : R :=
pCall c (.fn 16 [] []) [a1] h fun v0 h1 =>
pInt .eql v0 (.int .i64 (.ofNat 0)) fun v2 =>
pCond v2 (
some ((.tup [(.int .i64 (.ofNat 0)), (.int .i64 (.ofNat 3))]), h1)) (
pCall c (.fn 41 [] []) [v0] h1 fun v3 h4 =>
pCall c (.fn 40 [] []) [a0, v3] h4 fun v5 h6 =>
pExtract v5 0 fun v7 =>
pExtract v5 1 fun v8 =>
pInt .neq v8 (.int .i64 (.ofNat 0)) fun v9 =>
pCond v9 (
some ((.tup [(.int .i64 (.ofNat 0)), v8]), h6)) (
pInt .neq v7 (.int .u64 (.ofNat 0)) fun v10 =>
pCond v10 (
pCall c (.fn 42 [] []) [a0, v0, v7] h6 fun v11 h12 =>
pExtract v11 0 fun v13 =>
pExtract v11 1 fun v14 =>
some ((.tup [v13, v14]), h12)) (
pCall c (.fn 43 [] []) [a0, v0] h6 fun v15 h16 =>
pExtract v15 0 fun v17 =>
pExtract v15 1 fun v18 =>
some ((.tup [v17, v18]), h16))))
theorem S12_eq (c : CV) (a0 a1 : AV) (h : AH) : enterK Try.prog NN P12 c 12 [a0, a1] h = S12 c a0 a1 h := by kernel_rfl
def W12 (c : CV) (l : List AV) (h : AH) : R := match l with | [a0, a1] => S12 c a0 a1 h | _ => none
theorem W12_ok : WOk Try.prog 12 W12 := by
  intro c l h r e
  unfold W12 at e
  split at e
  · exact ⟨P12, by rw [S12_eq]; exact e⟩
  · cases e
/- quietus/arena.Free -/
def P13 : Pl := (.n none .z (.n none .z (.n (some [7, 5, 1, 0]) (.n none (.r [[19, 17, 7, 5, 1, 0]]) .z) (.n (some [7, 1, 0]) .z (.n (some [7]) .z .z)))))
def S13 (c : CV) (a0 a1 : AV) (h : AH) : R :=
pCall c (.fn 44 [] []) [a0, a1] h fun v0 h1 =>
pExtract v0 0 fun v2 =>
pExtract v0 1 fun v3 =>
pExtract v0 2 fun v4 =>
joinC (α := AV × AV × AV × AV × Unit → AH → List Nat → R) (fun s5 h6 d7 =>
joinC (α := AV × AV × AV × Unit → AH → List Nat → R) (fun s9 h10 d11 =>
joinC (α := AV × Unit → AH → List Nat → R) (fun s13 h14 d15 =>
pLeave d15 h14 fun h17 =>
some (s13.1, h17)) fun j16 =>
pInt .eql s9.1 (.int .i64 (.ofNat 0)) fun v18 =>
pCond v18 (
pCall c (.fn 46 [] []) [s9.2.2.1, s9.2.1] h10 fun _ h20 =>
j16 (s9.1, ()) h20 d11) (
j16 (s9.1, ()) h10 d11)) fun j12 =>
pInt .eql s5.1 (.int .i64 (.ofNat 0)) fun v21 =>
pCond v21 (
pInt .sub s5.2.2.1 (.int .i64 (.ofNat 1)) fun v22 =>
pConvI .u64 s5.2.1 fun v23 =>
pBuild [(.int .i64 (.ofNat 0)), (.int .u64 (.ofNat 0))] [(0, 1, v22), (1, 1, v23)] fun v24 =>
pBuildS h6 83 [(.int .i64 (.ofNat 0)), (.int .u64 (.ofNat 0))] 1 [(0, 2, v24)] fun v25 h26 =>
pCall c (.fn 45 [] []) [s5.2.2.2.1, v25] h26 fun v27 h28 =>
j12 (v27, s5.2.2.1, s5.2.2.2.1, ()) h28 d7) (
j12 (s5.1, s5.2.2.1, s5.2.2.2.1, ()) h6 d7)) fun j8 =>
pInt .eql v4 (.int .i64 (.ofNat 0)) fun v29 =>
joinC (α := AV × AV × AV × AV × AV × AV × Unit → AH → R) (fun s30 h31 =>
pPick s30.2.1 s30.1 (.bool false) fun v33 =>
pCond v33 (
j8 ((.int .i64 (.ofNat 2)), s30.2.2.2.1, s30.2.2.2.2.1, s30.2.2.2.2.2.1, ()) h31 []) (
j8 (s30.2.2.1, s30.2.2.2.1, s30.2.2.2.2.1, s30.2.2.2.2.2.1, ()) h31 [])) fun j32 =>
pWant v29 true (
pUn .not v3 fun v34 =>
j32 (v34, v29, v4, v2, a1, a0, ()) h1) (
j32 (.undef, v29, v4, v2, a1, a0, ()) h1)
theorem S13_eq (c : CV) (a0 a1 : AV) (h : AH) : enterK Try.prog NN P13 c 13 [a0, a1] h = S13 c a0 a1 h := by kernel_rfl
def W13 (c : CV) (l : List AV) (h : AH) : R := match l with | [a0, a1] => S13 c a0 a1 h | _ => none
theorem W13_ok : WOk Try.prog 13 W13 := by
  intro c l h r e
  unfold W13 at e
  split at e
  · exact ⟨P13, by rw [S13_eq]; exact e⟩
  · cases e
/- quietus/arena.Give -/
def P14 : Pl := (.n none .z (.n none .z (.n (some [7, 5, 1, 0]) (.n none (.r [[19, 18, 7, 5, 1, 0]]) .z) .z)))
def S14 (c : CV) (a0 a1 : AV) (h : AH) : R :=
pCall c (.fn 44 [] []) [a0, a1] h fun v0 h1 =>
pExtract v0 0 fun v2 =>
pExtract v0 1 fun v3 =>
pExtract v0 2 fun v4 =>
joinC (α := AV × AV × AV × AV × Unit → AH → List Nat → R) (fun s5 h6 d7 =>
pInt .neq s5.1 (.int .i64 (.ofNat 0)) fun v9 =>
pCond v9 (
pLeave d7 h6 fun h10 =>
some (s5.1, h10)) (
pCall c (.fn 41 [] []) [s5.2.1] h6 fun v11 h12 =>
pCall c (.fn 40 [] []) [s5.2.2.2.1, v11] h12 fun v13 h14 =>
pExtract v13 0 fun v15 =>
pExtract v13 1 fun v16 =>
pInt .neq v16 (.int .i64 (.ofNat 0)) fun v17 =>
pCond v17 (
pLeave d7 h14 fun h18 =>
some (v16, h18)) (
pBuild [(.int .i64 (.ofNat 0)), (.int .u64 (.ofNat 0))] [(0, 1, s5.2.2.1), (1, 1, v15)] fun v19 =>
pCall c (.fn 41 [] []) [s5.2.1] h14 fun v20 h21 =>
pConvI .u64 s5.2.2.1 fun v22 =>
pBuild [(.int .i64 (.ofNat 0)), (.int .u64 (.ofNat 0))] [(0, 1, v20), (1, 1, v22)] fun v23 =>
pBuildS h21 83 [(.int .i64 (.ofNat 0)), (.int .u64 (.ofNat 0))] 2 [(0, 2, v19), (2, 2, v23)] fun v24 h25 =>
pCall c (.fn 45 [] []) [s5.2.2.2.1, v24] h25 fun v26 h27 =>
pLeave d7 h27 fun h28 =>
some (v26, h28)))) fun j8 =>
pInt .eql v4 (.int .i64 (.ofNat 0)) fun v29 =>
joinC (α := AV × AV × AV × AV × AV × AV × Unit → AH → R) (fun s30 h31 =>
pPick s30.2.1 s30.1 (.bool false) fun v33 =>
pCond v33 (
j8 ((.int .i64 (.ofNat 2)), s30.2.2.2.1, s30.2.2.2.2.1, s30.2.2.2.2.2.1, ()) h31 []) (
j8 (s30.2.2.1, s30.2.2.2.1, s30.2.2.2.2.1, s30.2.2.2.2.2.1, ()) h31 [])) fun j32 =>
pWant v29 true (
j32 (v3, v29, v4, v2, a1, a0, ()) h1) (
j32 (.undef, v29, v4, v2, a1, a0, ()) h1)
theorem S14_eq (c : CV) (a0 a1 : AV) (h : AH) : enterK Try.prog NN P14 c 14 [a0, a1] h = S14 c a0 a1 h := by kernel_rfl
def W14 (c : CV) (l : List AV) (h : AH) : R := match l with | [a0, a1] => S14 c a0 a1 h | _ => none
theorem W14_ok : WOk Try.prog 14 W14 := by
  intro c l h r e
  unfold W14 at e
  split at e
  · exact ⟨P14, by rw [S14_eq]; exact e⟩
  · cases e
/- (*quietus/view.View).Frees -/
def P15 : Pl := .z
def S15 (c : CV) (a0 : AV) (h : AH) : R :=
pNil a0 fun v0 =>
pFieldA v0 2 fun v1 =>
pLoad1 h v1 fun v2 =>
pCall c (.fn 47 [] []) [v2] h fun v3 h4 =>
some (v3, h4)
theorem S15_eq (c : CV) (a0 : AV) (h : AH) : enterK Try.prog NN P15 c 15 [a0] h = S15 c a0 h := by kernel_rfl
def W15 (c : CV) (l : List AV) (h : AH) : R := match l with | [a0] => S15 c a0 h | _ => none
theorem W15_ok : WOk Try.prog 15 W15 := by
  intro c l h r e
  unfold W15 at e
  split at e
  · exact ⟨P15, by rw [S15_eq]; exact e⟩
  · cases e
/- quietus/arena.Class -/
def P16 : Pl := (.n none .z (.n none .z (.n none (.n none .z (.n none (.n (some [3, 0]) .z .z) .z)) .z)))
def S16 (c : CV) (a0 : AV) (h : AH) : R :=
pInt .lss a0 (.int .i64 (.ofNat 1)) fun v0 =>
pCond v0 (
some ((.int .i64 (.ofNat 0)), h)) (
loopC (σ := AV × AV × Unit) NN (fun i4 s1 h2 d3 =>
pInt .leq s1.1 (.int .i64 (.ofNat 4)) fun v5 =>
pCond v5 (
pCall c (.fn 17 [] []) [s1.1] h2 fun v6 h7 =>
pInt .geq v6 s1.2.1 fun v8 =>
pCond v8 (
pLeave d3 h7 fun h9 =>
some (s1.1, h9)) (
pInt .add s1.1 (.int .i64 (.ofNat 1)) fun v10 =>
i4 (v10, s1.2.1, ()) h7 d3)) (
pLeave d3 h2 fun h11 =>
some ((.int .i64 (.ofNat 0)), h11))) ((.int .i64 (.ofNat 1)), a0, ()) h [])
theorem S16_eq (c : CV) (a0 : AV) (h : AH) : enterK Try.prog NN P16 c 16 [a0] h = S16 c a0 h := by kernel_rfl
def W16 (c : CV) (l : List AV) (h : AH) : R := match l with | [a0] => S16 c a0 h | _ => none
theorem W16_ok : WOk Try.prog 16 W16 := by
  intro c l h r e
  unfold W16 at e
  split at e
  · exact ⟨P16, by rw [S16_eq]; exact e⟩
  · cases e
/- quietus/arena.Size -/
def P17 : Pl := (.n none .z (.n none (.n none (.r [[7, 5, 0]]) .z) .z))
def S17 (_ : CV) (a0 : AV) (h : AH) : R :=
pInt .lss a0 (.int .i64 (.ofNat 1)) fun v0 =>
joinC (α := AV × AV × AV × Unit → AH → R) (fun s1 h2 =>
pPick s1.2.1 (.bool true) s1.1 fun v4 =>
pCond v4 (
some ((.int .i64 (.ofNat 0)), h2)) (
pShift .shl (.int .i64 (.ofNat 1)) s1.2.2.1 fun v5 =>
some (v5, h2))) fun j3 =>
pWant v0 false (
pInt .gtr a0 (.int .i64 (.ofNat 4)) fun v6 =>
j3 (v6, v0, a0, ()) h) (
j3 (.undef, v0, a0, ()) h)
theorem S17_eq (c : CV) (a0 : AV) (h : AH) : enterK Try.prog NN P17 c 17 [a0] h = S17 c a0 h := by kernel_rfl
def W17 (c : CV) (l : List AV) (h : AH) : R := match l with | [a0] => S17 c a0 h | _ => none
theorem W17_ok : WOk Try.prog 17 W17 := by
  intro c l h r e
  unfold W17 at e
  split at e
  · exact ⟨P17, by rw [S17_eq]; exact e⟩
  · cases e
/- quietus/quietusref1.Held -/
def P18 : Pl := .z
def S18 (_ : CV) (a0 a1 a2 : AV) (h : AH) : R :=
pInt .lss a0 a1 fun v0 =>
pCond v0 (
some (a1, h)) (
pInt .gtr a0 a2 fun v1 =>
pCond v1 (
some (a2, h)) (
some (a0, h)))
theorem S18_eq (c : CV) (a0 a1 a2 : AV) (h : AH) : enterK Try.prog NN P18 c 18 [a0, a1, a2] h = S18 c a0 a1 a2 h := by kernel_rfl
def W18 (c : CV) (l : List AV) (h : AH) : R := match l with | [a0, a1, a2] => S18 c a0 a1 a2 h | _ => none
theorem W18_ok : WOk Try.prog 18 W18 := by
  intro c l h r e
  unfold W18 at e
  split at e
  · exact ⟨P18, by rw [S18_eq]; exact e⟩
  · cases e
/- (*quietus/view.View).Cells -/
def P19 : Pl := .z
def S19 (c : CV) (a0 : AV) (h : AH) : R :=
pNil a0 fun v0 =>
pFieldA v0 2 fun v1 =>
pLoad1 h v1 fun v2 =>
pCall c (.fn 48 [] []) [v2] h fun v3 h4 =>
some (v3, h4)
theorem S19_eq (c : CV) (a0 : AV) (h : AH) : enterK Try.prog NN P19 c 19 [a0] h = S19 c a0 h := by kernel_rfl
def W19 (c : CV) (l : List AV) (h : AH) : R := match l with | [a0] => S19 c a0 h | _ => none
theorem W19_ok : WOk Try.prog 19 W19 := by
  intro c l h r e
  unfold W19 at e
  split at e
  · exact ⟨P19, by rw [S19_eq]; exact e⟩
  · cases e
/- quietus/quietusref21.Apply -/
def P20 : Pl := (.n none .z (.n none .z (.n none .z (.n none (.n none .z (.n none (.n (some [7, 6, 5, 1]) .z .z) .z)) (.n none (.n none .z (.n none (.n (some [8, 6, 5, 1]) (.n none .z (.n none (.n (some [8, 6, 5, 1]) .z .z) .z)) .z) .z)) .z)))))
def S20 (c : CV) (a0 a1 : AV) (h : AH) : R :=
pCall c (.fn 23 [] []) [a0, (.int .i64 (.ofNat 0))] h fun v0 h1 =>
pNil v0 fun v2 =>
pFieldA v2 0 fun v3 =>
pLoad1 h1 v3 fun v4 =>
pMake h1 43 [(.int .u64 (.ofNat 0))] v4 v4 fun v5 h6 =>
loopC (σ := AV × AV × AV × AV × Unit) NN (fun i10 s7 h8 d9 =>
pNil s7.2.2.1 fun v11 =>
pFieldA v11 1 fun v12 =>
pLoad1 h8 v12 fun v13 =>
pLenS v13 fun v14 =>
pInt .lss s7.1 v14 fun v15 =>
pCond v15 (
pNil s7.2.2.1 fun v16 =>
pFieldA v16 1 fun v17 =>
pLoad1 h8 v17 fun v18 =>
pIdxS v18 s7.1 2 fun v19 =>
pFieldA v19 0 fun v20 =>
pLoad1 h8 v20 fun v21 =>
pNil s7.2.2.1 fun v22 =>
pFieldA v22 1 fun v23 =>
pLoad1 h8 v23 fun v24 =>
pIdxS v24 s7.1 2 fun v25 =>
pFieldA v25 1 fun v26 =>
pLoad1 h8 v26 fun v27 =>
pIdxS s7.2.1 v21 1 fun v28 =>
pStore h8 v28 v27 1 fun h29 =>
pInt .add s7.1 (.int .i64 (.ofNat 1)) fun v30 =>
i10 (v30, s7.2.1, s7.2.2.1, s7.2.2.2.1, ()) h29 d9) (
loopC (σ := AV × AV × AV × AV × Unit) NN (fun i34 s31 h32 d33 =>
pLenS s31.2.2.2.1 fun v35 =>
pInt .lss s31.1 v35 fun v36 =>
pCond v36 (
joinC (α := AV × AV × AV × AV × Unit → AH → List Nat → R) (fun s37 h38 d39 =>
pInt .add s37.1 (.int .i64 (.ofNat 1)) fun v41 =>
i34 (v41, s37.2.1, s37.2.2.1, s37.2.2.2.1, ()) h38 d39) fun j40 =>
pIdxS s31.2.2.2.1 s31.1 2 fun v42 =>
pFieldA v42 0 fun v43 =>
pLoad1 h32 v43 fun v44 =>
pCall c (.fn 49 [] []) [s31.2.2.1, v44] h32 fun v45 h46 =>
pCond v45 (
pIdxS s31.2.2.2.1 s31.1 2 fun v47 =>
pFieldA v47 0 fun v48 =>
pLoad1 h46 v48 fun v49 =>
pIdxS s31.2.2.2.1 s31.1 2 fun v50 =>
pFieldA v50 1 fun v51 =>
pLoad1 h46 v51 fun v52 =>
pIdxS s31.2.1 v49 1 fun v53 =>
pStore h46 v53 v52 1 fun h54 =>
j40 (s31.1, s31.2.1, s31.2.2.1, s31.2.2.2.1, ()) h54 d33) (
j40 (s31.1, s31.2.1, s31.2.2.1, s31.2.2.2.1, ()) h46 d33)) (
pLeave d33 h32 fun h55 =>
some (s31.2.1, h55))) ((.int .i64 (.ofNat 0)), s7.2.1, s7.2.2.1, s7.2.2.2.1, ()) h8 d9)) ((.int .i64 (.ofNat 0)), v5, v0, a1, ()) h6 []
theorem S20_eq (c : CV) (a0 a1 : AV) (h : AH) : enterK Try.prog NN P20 c 20 [a0, a1] h = S20 c a0 a1 h := by kernel_rfl
def W20 (c : CV) (l : List AV) (h : AH) : R := match l with | [a0, a1] => S20 c a0 a1 h | _ => none
theorem W20_ok : WOk Try.prog 20 W20 := by
  intro c l h r e
  unfold W20 at e
  split at e
  · exact ⟨P20, by rw [S20_eq]; exact e⟩
  · cases e
/- quietus/quietusbook.Same[uint64] -/
def P21 : Pl := (.n none .z (.n none .z (.n none (.n none .z (.n none (.n (some [5, 1, 0]) .z .z) .z)) .z)))
def S21 (_ : CV) (a0 a1 : AV) (h : AH) : R :=
pLenS a0 fun v0 =>
pLenS a1 fun v1 =>
pInt .neq v0 v1 fun v2 =>
pCond v2 (
some ((.bool false), h)) (
loopC (σ := AV × AV × AV × Unit) NN (fun i6 s3 h4 d5 =>
pLenS s3.2.2.1 fun v7 =>
pInt .lss s3.1 v7 fun v8 =>
pCond v8 (
pIdxS s3.2.2.1 s3.1 1 fun v9 =>
pLoad1 h4 v9 fun v10 =>
pIdxS s3.2.1 s3.1 1 fun v11 =>
pLoad1 h4 v11 fun v12 =>
pInt .neq v10 v12 fun v13 =>
pCond v13 (
pLeave d5 h4 fun h14 =>
some ((.bool false), h14)) (
pInt .add s3.1 (.int .i64 (.ofNat 1)) fun v15 =>
i6 (v15, s3.2.1, s3.2.2.1, ()) h4 d5)) (
pLeave d5 h4 fun h16 =>
some ((.bool true), h16))) ((.int .i64 (.ofNat 0)), a1, a0, ()) h [])
theorem S21_eq (c : CV) (a0 a1 : AV) (h : AH) : enterK Try.prog NN P21 c 21 [a0, a1] h = S21 c a0 a1 h := by kernel_rfl
def W21 (c : CV) (l : List AV) (h : AH) : R := match l with | [a0, a1] => S21 c a0 a1 h | _ => none
theorem W21_ok : WOk Try.prog 21 W21 := by
  intro c l h r e
  unfold W21 at e
  split at e
  · exact ⟨P21, by rw [S21_eq]; exact e⟩
  · cases e
/- quietus/quietusref7.Fresh -/
def P22 : Pl := .z
def S22 (c : CV) (a0 : AV) (h : AH) : R :=
pCall c (.fn 18 [] []) [a0, (.int .i64 (.ofNat 32)), (.int .i64 (.ofNat 256))] h fun v0 h1 =>
pMake h1 43 [(.int .u64 (.ofNat 0))] v0 v0 fun v2 h3 =>
pIdxS v2 (.int .i64 (.ofNat 5)) 1 fun v4 =>
pStore h3 v4 (.int .u64 (.ofNat 14)) 1 fun h5 =>
some (v2, h5)
theorem S22_eq (c : CV) (a0 : AV) (h : AH) : enterK Try.prog NN P22 c 22 [a0] h = S22 c a0 h := by kernel_rfl
def W22 (c : CV) (l : List AV) (h : AH) : R := match l with | [a0] => S22 c a0 h | _ => none
theorem W22_ok : WOk Try.prog 22 W22 := by
  intro c l h r e
  unfold W22 at e
  split at e
  · exact ⟨P22, by rw [S22_eq]; exact e⟩
  · cases e
/- quietus/quietusref7.Whole -/
def P23 : Pl := (.n none .z (.n none .z (.n none (.n none .z (.n none (.n (some [6, 5, 0]) (.n none .z (.n none (.n none (.n none .z (.n (some [7, 6, 5, 0]) .z .z)) .z) .z)) .z) .z)) .z)))
def S23 (c : CV) (a0 a1 : AV) (h : AH) : R :=
pLenS a0 fun v0 =>
pCall c (.fn 27 [] []) [v0, a1] h fun v1 h2 =>
loopC (σ := AV × AV × AV × Unit) NN (fun i6 s3 h4 d5 =>
pNil s3.2.1 fun v7 =>
pFieldA v7 0 fun v8 =>
pLoad1 h4 v8 fun v9 =>
pInt .lss s3.1 v9 fun v10 =>
pCond v10 (
joinC (α := AV × AV × AV × AV × Unit → AH → List Nat → R) (fun s11 h12 d13 =>
pNil s11.2.2.1 fun v15 =>
pFieldA v15 1 fun v16 =>
pLoad1 h12 v16 fun v17 =>
pBuild [(.int .i64 (.ofNat 0)), (.int .u64 (.ofNat 0))] [(0, 1, s11.2.1), (1, 1, s11.1)] fun v18 =>
pBuildS h12 83 [(.int .i64 (.ofNat 0)), (.int .u64 (.ofNat 0))] 1 [(0, 2, v18)] fun v19 h20 =>
pAppend h20 83 2 v17 v19 fun v21 h22 =>
pNil s11.2.2.1 fun v23 =>
pFieldA v23 1 fun v24 =>
pStore h22 v24 v21 1 fun h25 =>
pInt .add s11.2.1 (.int .i64 (.ofNat 1)) fun v26 =>
i6 (v26, s11.2.2.1, s11.2.2.2.1, ()) h25 d13) fun j14 =>
pLenS s3.2.2.1 fun v27 =>
pInt .lss s3.1 v27 fun v28 =>
pCond v28 (
pIdxS s3.2.2.1 s3.1 1 fun v29 =>
pLoad1 h4 v29 fun v30 =>
j14 (v30, s3.1, s3.2.1, s3.2.2.1, ()) h4 d5) (
j14 ((.int .u64 (.ofNat 0)), s3.1, s3.2.1, s3.2.2.1, ()) h4 d5)) (
pLeave d5 h4 fun h31 =>
some (s3.2.1, h31))) ((.int .i64 (.ofNat 1)), v1, a0, ()) h2 []
theorem S23_eq (c : CV) (a0 a1 : AV) (h : AH) : enterK Try.prog NN P23 c 23 [a0, a1] h = S23 c a0 a1 h := by kernel_rfl
def W23 (c : CV) (l : List AV) (h : AH) : R := match l with | [a0, a1] => S23 c a0 a1 h | _ => none
theorem W23_ok : WOk Try.prog 23 W23 := by
  intro c l h r e
  unfold W23 at e
  split at e
  · exact ⟨P23, by rw [S23_eq]; exact e⟩
  · cases e
/- quietus/quietuslaw11.do -/
def P24 : Pl := (.n none .z (.n none .z (.n (some [10, 6, 3, 1, 0]) (.n none (.r [[24, 21, 10, 6, 3, 1, 0]]) .z) (.n none (.n none .z (.n none (.n (some [38, 37, 10, 6, 3, 1, 0]) .z (.n none .z (.n (some [49, 37, 10, 6, 3, 1, 0]) .z (.n none .z (.n none .z (.n none (.n none (.r [[9, 8]]) .z) (.n none .z (.n none (.n none (.r [[9, 8]]) .z) (.n none .z (.n none (.n none (.r [[9, 8]]) .z) .z)))))))))) .z)) (.n none .z (.n none .z (.n none .z (.n (some [15, 14, 13, 12, 3]) .z (.n none (.r [[122, 119, 115]]) .z)))))))))
def S24 (c : CV) (a0 a1 a2 a3 : AV) (h : AH) : R :=
pBox h 49 a2 fun v0 h1 =>
pFieldA v0 1 fun v2 =>
pLoad1 h1 v2 fun v3 =>
pCall c (.fn 37 [] []) [v3, (.int .i64 (.ofNat 0)), (.int .i64 (.ofNat 256))] h1 fun v4 h5 =>
joinC (α := AV × AV × AV × AV × AV × Unit → AH → List Nat → R) (fun s6 h7 d8 =>
pFieldA s6.2.1 0 fun v10 =>
pLoad1 h7 v10 fun v11 =>
pCall c (.fn 37 [] []) [v11, (.int .i64 (.ofNat 0)), (.int .i64 (.ofNat 9))] h7 fun v12 h13 =>
joinC (α := AV × AV × AV × AV × AV × AV × AV × Unit → AH → List Nat → R) (fun s14 h15 d16 =>
pCond s14.1 (
pCall c (.fn 13 [] []) [s14.2.2.2.2.2.2.1, s14.2.2.1] h15 fun v18 h19 =>
pCall c (.fn 50 [] []) [s14.2.2.2.2.2.1, s14.2.2.1] h19 fun v20 h21 =>
pInt .eql v18 v20 fun v22 =>
pLeave d16 h21 fun h23 =>
some ((.tup [s14.2.2.2.2.1, v22]), h23)) (
joinC (α := AV × AV × AV × AV × AV × AV × AV × Unit → AH → List Nat → R) (fun s24 h25 d26 =>
pCond s24.1 (
pCall c (.fn 14 [] []) [s24.2.2.2.2.2.2.1, s24.2.2.1] h25 fun v28 h29 =>
pCall c (.fn 51 [] []) [s24.2.2.2.2.2.1, s24.2.2.1] h29 fun v30 h31 =>
pInt .eql v28 v30 fun v32 =>
pLeave d26 h31 fun h33 =>
some ((.tup [s24.2.2.2.2.1, v32]), h33)) (
pInt .eql s24.2.1 (.int .i64 (.ofNat 2)) fun v34 =>
pCond v34 (
joinC (α := AV × AV × Unit → AH → R) (fun s35 h36 =>
pLeave d26 h36 fun h38 =>
some ((.tup [s35.2.1, s35.1]), h38)) fun j37 =>
pCall c (.fn 52 [] []) [s24.2.2.2.2.2.2.1] h25 fun v39 h40 =>
pNil s24.2.2.2.2.2.1 fun v41 =>
pFieldA v41 2 fun v42 =>
pLoad1 h40 v42 fun v43 =>
pCall c (.fn 53 [] []) [v43] h40 fun v44 h45 =>
pInt .eql v39 v44 fun v46 =>
pChk v42 none v43 h25 h40 h25.nx <|
j37 (v46, s24.2.2.2.2.1, ()) h45) (
pInt .eql s24.2.1 (.int .i64 (.ofNat 3)) fun v47 =>
pCond v47 (
joinC (α := AV × AV × Unit → AH → R) (fun s48 h49 =>
pLeave d26 h49 fun h51 =>
some ((.tup [s48.2.1, s48.1]), h51)) fun j50 =>
pCall c (.fn 54 [] []) [s24.2.2.2.2.2.2.1] h25 fun v52 h53 =>
pNil s24.2.2.2.2.2.1 fun v54 =>
pFieldA v54 2 fun v55 =>
pLoad1 h53 v55 fun v56 =>
pCall c (.fn 55 [] []) [v56] h53 fun v57 h58 =>
pInt .eql v52 v57 fun v59 =>
pChk v55 none v56 h25 h53 h25.nx <|
j50 (v59, s24.2.2.2.2.1, ()) h58) (
pInt .eql s24.2.1 (.int .i64 (.ofNat 4)) fun v60 =>
pCond v60 (
joinC (α := AV × AV × Unit → AH → R) (fun s61 h62 =>
pLeave d26 h62 fun h64 =>
some ((.tup [s61.2.1, s61.1]), h64)) fun j63 =>
pCall c (.fn 56 [] []) [s24.2.2.2.2.2.2.1] h25 fun v65 h66 =>
pNil s24.2.2.2.2.2.1 fun v67 =>
pFieldA v67 2 fun v68 =>
pLoad1 h66 v68 fun v69 =>
pCall c (.fn 57 [] []) [v69] h66 fun v70 h71 =>
pInt .eql v65 v70 fun v72 =>
pChk v68 none v69 h25 h66 h25.nx <|
j63 (v72, s24.2.2.2.2.1, ()) h71) (
pFieldA s24.2.2.2.1 1 fun v73 =>
pLoad1 h25 v73 fun v74 =>
pCall c (.fn 37 [] []) [v74, (.int .i64 (.negSucc 0)), (.int .i64 (.ofNat 17))] h25 fun v75 h76 =>
pCall c (.fn 12 [] []) [s24.2.2.2.2.2.2.1, v75] h76 fun v77 h78 =>
pExtract v77 0 fun v79 =>
pExtract v77 1 fun v80 =>
pCall c (.fn 58 [] []) [s24.2.2.2.2.2.1, v75] h78 fun v81 h82 =>
pExtract v81 0 fun v83 =>
pExtract v81 1 fun v84 =>
joinC (α := AV × AV × AV × AV × AV × Unit → AH → List Nat → R) (fun s85 h86 d87 =>
pInt .eql s85.2.2.2.1 s85.2.1 fun v89 =>
joinC (α := AV × AV × AV × Unit → AH → R) (fun s90 h91 =>
pPick s90.2.1 s90.1 (.bool false) fun v93 =>
pLeave d87 h91 fun h94 =>
some ((.tup [s90.2.2.1, v93]), h94)) fun j92 =>
pWant v89 true (
pInt .eql s85.2.2.1 s85.1 fun v95 =>
j92 (v95, v89, s85.2.2.2.2.1, ()) h86) (
j92 (.undef, v89, s85.2.2.2.2.1, ()) h86)) fun j88 =>
pInt .eql v80 (.int .i64 (.ofNat 0)) fun v96 =>
pCond v96 (
pAppend h82 3 1 .nils s24.2.2.2.2.1 fun v97 h98 =>
pBuildS h98 3 [(.int .i64 (.ofNat 0))] 1 [(0, 1, v79)] fun v99 h100 =>
pAppend h100 3 1 v97 v99 fun v101 h102 =>
j88 (v84, v83, v80, v79, v101, ()) h102 d26) (
j88 (v84, v83, v80, v79, s24.2.2.2.2.1, ()) h82 d26)))))) fun j27 =>
pInt .eql s14.2.1 (.int .i64 (.ofNat 1)) fun v103 =>
pCond v103 (
j27 (v103, s14.2.1, s14.2.2.1, s14.2.2.2.1, s14.2.2.2.2.1, s14.2.2.2.2.2.1, s14.2.2.2.2.2.2.1, ()) h15 d16) (
pInt .eql s14.2.1 (.int .i64 (.ofNat 6)) fun v104 =>
j27 (v104, s14.2.1, s14.2.2.1, s14.2.2.2.1, s14.2.2.2.2.1, s14.2.2.2.2.2.1, s14.2.2.2.2.2.2.1, ()) h15 d16))) fun j17 =>
pInt .eql v12 (.int .i64 (.ofNat 0)) fun v105 =>
pCond v105 (
j17 (v105, v12, s6.1, s6.2.1, s6.2.2.1, s6.2.2.2.1, s6.2.2.2.2.1, ()) h13 d8) (
pInt .eql v12 (.int .i64 (.ofNat 5)) fun v106 =>
j17 (v106, v12, s6.1, s6.2.1, s6.2.2.1, s6.2.2.2.1, s6.2.2.2.2.1, ()) h13 d8)) fun j9 =>
pFieldA v0 2 fun v107 =>
pLoad1 h5 v107 fun v108 =>
joinC (α := AV × AV × AV × AV × AV × AV × AV × Unit → AH → R) (fun s109 h110 =>
pPick s109.2.1 s109.1 (.bool false) fun v112 =>
pCond v112 (
pFieldA s109.2.2.2.1 1 fun v113 =>
pLoad1 h110 v113 fun v114 =>
pLenS s109.2.2.2.2.1 fun v115 =>
pInt .sub v115 (.int .i64 (.ofNat 1)) fun v116 =>
pCall c (.fn 37 [] []) [v114, (.int .i64 (.ofNat 0)), v116] h110 fun v117 h118 =>
pIdxS s109.2.2.2.2.1 v117 1 fun v119 =>
pLoad1 h118 v119 fun v120 =>
j9 (v120, s109.2.2.2.1, s109.2.2.2.2.1, s109.2.2.2.2.2.1, s109.2.2.2.2.2.2.1, ()) h118 []) (
j9 (s109.2.2.1, s109.2.2.2.1, s109.2.2.2.2.1, s109.2.2.2.2.2.1, s109.2.2.2.2.2.2.1, ()) h110 [])) fun j111 =>
pWant v108 true (
pLenS a3 fun v121 =>
pInt .gtr v121 (.int .i64 (.ofNat 0)) fun v122 =>
j111 (v122, v108, v4, v0, a3, a1, a0, ()) h5) (
j111 (.undef, v108, v4, v0, a3, a1, a0, ()) h5)
theorem S24_eq (c : CV) (a0 a1 a2 a3 : AV) (h : AH) : enterK Try.prog NN P24 c 24 [a0, a1, a2, a3] h = S24 c a0 a1 a2 a3 h := by kernel_rfl
def W24 (c : CV) (l : List AV) (h : AH) : R := match l with | [a0, a1, a2, a3] => S24 c a0 a1 a2 a3 h | _ => none
theorem W24_ok : WOk Try.prog 24 W24 := by
  intro c l h r e
  unfold W24 at e
  split at e
  · exact ⟨P24, by rw [S24_eq]; exact e⟩
  · cases e
/- quietus/quietuslaw11.same -/
def P25 : Pl := (.n none .z (.n none .z (.n none (.r [[4]]) .z)))
def S25 (c : CV) (a0 a1 : AV) (h : AH) : R :=
pNil a1 fun v0 =>
pFieldA v0 2 fun v1 =>
pLoad1 h v1 fun v2 =>
pCall c (.fn 59 [] []) [v2] h fun v3 h4 =>
pBox h4 96 (.agg [.nils, .nils]) fun v5 h6 =>
pStore h6 v5 v3 2 fun h7 =>
joinC (α := AV × Unit → AH → R) (fun s8 h9 =>
some (s8.1, h9)) fun j10 =>
pCall c (.fn 19 [] []) [a0] h7 fun v11 h12 =>
pFieldA v5 0 fun v13 =>
pLoad1 h12 v13 fun v14 =>
pCall c (.fn 60 [] []) [v11, v14] h12 fun v15 h16 =>
pWant v15 true (
pCall c (.fn 15 [] []) [a0] h16 fun v17 h18 =>
pFieldA v5 1 fun v19 =>
pLoad1 h18 v19 fun v20 =>
pCall c (.fn 36 [] []) [v17, v20] h18 fun v21 h22 =>
pPick v15 v21 (.bool false) fun v23 =>
pWant v23 true (
pCall c (.fn 28 [] []) [a0] h22 fun v24 h25 =>
pNil a1 fun v26 =>
pFieldA v26 3 fun v27 =>
pLoad1 h25 v27 fun v28 =>
pInt .eql v24 v28 fun v29 =>
pPick v23 v29 (.bool false) fun v30 =>
pWant v30 true (
pCall c (.fn 61 [] []) [a0] h25 fun v31 h32 =>
pNil a1 fun v33 =>
pFieldA v33 2 fun v34 =>
pLoad1 h32 v34 fun v35 =>
pNil v35 fun v36 =>
pFieldA v36 1 fun v37 =>
pLoad1 h32 v37 fun v38 =>
pLenS v38 fun v39 =>
pInt .eql v31 v39 fun v40 =>
pPick v30 v40 (.bool false) fun v41 =>
pChk v37 none v38 h25 h32 h7.nx <|
pChk v34 none v35 h25 h32 h7.nx <|
pChk v27 none v28 h22 h25 h7.nx <|
pChk v19 none v20 h16 h18 h7.nx <|
pChk v13 none v14 h7 h12 h7.nx <|
j10 (v41, ()) h32) (
pPick v30 .undef (.bool false) fun v42 =>
pChk v27 none v28 h22 h25 h7.nx <|
pChk v19 none v20 h16 h18 h7.nx <|
pChk v13 none v14 h7 h12 h7.nx <|
j10 (v42, ()) h25)) (
pPick v23 .undef (.bool false) fun v43 =>
pWant v43 true (
pCall c (.fn 61 [] []) [a0] h22 fun v44 h45 =>
pNil a1 fun v46 =>
pFieldA v46 2 fun v47 =>
pLoad1 h45 v47 fun v48 =>
pNil v48 fun v49 =>
pFieldA v49 1 fun v50 =>
pLoad1 h45 v50 fun v51 =>
pLenS v51 fun v52 =>
pInt .eql v44 v52 fun v53 =>
pPick v43 v53 (.bool false) fun v54 =>
pChk v50 none v51 h22 h45 h7.nx <|
pChk v47 none v48 h22 h45 h7.nx <|
pChk v19 none v20 h16 h18 h7.nx <|
pChk v13 none v14 h7 h12 h7.nx <|
j10 (v54, ()) h45) (
pPick v43 .undef (.bool false) fun v55 =>
pChk v19 none v20 h16 h18 h7.nx <|
pChk v13 none v14 h7 h12 h7.nx <|
j10 (v55, ()) h22))) (
pPick v15 .undef (.bool false) fun v56 =>
pWant v56 true (
pCall c (.fn 28 [] []) [a0] h16 fun v57 h58 =>
pNil a1 fun v59 =>
pFieldA v59 3 fun v60 =>
pLoad1 h58 v60 fun v61 =>
pInt .eql v57 v61 fun v62 =>
pPick v56 v62 (.bool false) fun v63 =>
pWant v63 true (
pCall c (.fn 61 [] []) [a0] h58 fun v64 h65 =>
pNil a1 fun v66 =>
pFieldA v66 2 fun v67 =>
pLoad1 h65 v67 fun v68 =>
pNil v68 fun v69 =>
pFieldA v69 1 fun v70 =>
pLoad1 h65 v70 fun v71 =>
pLenS v71 fun v72 =>
pInt .eql v64 v72 fun v73 =>
pPick v63 v73 (.bool false) fun v74 =>
pChk v70 none v71 h58 h65 h7.nx <|
pChk v67 none v68 h58 h65 h7.nx <|
pChk v60 none v61 h16 h58 h7.nx <|
pChk v13 none v14 h7 h12 h7.nx <|
j10 (v74, ()) h65) (
pPick v63 .undef (.bool false) fun v75 =>
pChk v60 none v61 h16 h58 h7.nx <|
pChk v13 none v14 h7 h12 h7.nx <|
j10 (v75, ()) h58)) (
pPick v56 .undef (.bool false) fun v76 =>
pWant v76 true (
pCall c (.fn 61 [] []) [a0] h16 fun v77 h78 =>
pNil a1 fun v79 =>
pFieldA v79 2 fun v80 =>
pLoad1 h78 v80 fun v81 =>
pNil v81 fun v82 =>
pFieldA v82 1 fun v83 =>
pLoad1 h78 v83 fun v84 =>
pLenS v84 fun v85 =>
pInt .eql v77 v85 fun v86 =>
pPick v76 v86 (.bool false) fun v87 =>
pChk v83 none v84 h16 h78 h7.nx <|
pChk v80 none v81 h16 h78 h7.nx <|
pChk v13 none v14 h7 h12 h7.nx <|
j10 (v87, ()) h78) (
pPick v76 .undef (.bool false) fun v88 =>
pChk v13 none v14 h7 h12 h7.nx <|
j10 (v88, ()) h16)))
theorem S25_eq (c : CV) (a0 a1 : AV) (h : AH) : enterK Try.prog NN P25 c 25 [a0, a1] h = S25 c a0 a1 h := by kernel_rfl
def W25 (c : CV) (l : List AV) (h : AH) : R := match l with | [a0, a1] => S25 c a0 a1 h | _ => none
theorem W25_ok : WOk Try.prog 25 W25 := by
  intro c l h r e
  unfold W25 at e
  split at e
  · exact ⟨P25, by rw [S25_eq]; exact e⟩
  · cases e
/- quietus/view.New -/
def P26 : Pl := .z
def S26 (c : CV) (a0 a1 : AV) (h : AH) : R :=
pMM false [a0, (.int .i64 (.ofNat 256))] fun v0 =>
pMM true [(.int .i64 (.ofNat 32)), v0] fun v1 =>
pMake h 105 [(.int .u64 (.ofNat 0)), (.bool false)] v1 v1 fun v2 h3 =>
pCall c (.fn 62 [] []) [a1] h3 fun v4 h5 =>
pBuild [.nils, .nils, .nilp, (.int .i64 (.ofNat 0))] [(0, 1, v2), (2, 1, v4)] fun v6 =>
pBox h5 88 v6 fun v7 h8 =>
some (v7, h8)
theorem S26_eq (c : CV) (a0 a1 : AV) (h : AH) : enterK Try.prog NN P26 c 26 [a0, a1] h = S26 c a0 a1 h := by kernel_rfl
def W26 (c : CV) (l : List AV) (h : AH) : R := match l with | [a0, a1] => S26 c a0 a1 h | _ => none
theorem W26_ok : WOk Try.prog 26 W26 := by
  intro c l h r e
  unfold W26 at e
  split at e
  · exact ⟨P26, by rw [S26_eq]; exact e⟩
  · cases e
/- quietus/quietusref7.NewView -/
def P27 : Pl := .z
def S27 (c : CV) (a0 a1 : AV) (h : AH) : R :=
pCall c (.fn 18 [] []) [a0, (.int .i64 (.ofNat 32)), (.int .i64 (.ofNat 256))] h fun v0 h1 =>
pCall c (.fn 63 [] []) [a1] h1 fun v2 h3 =>
pBuild [(.int .i64 (.ofNat 0)), .nils, .nilp, (.int .i64 (.ofNat 0))] [(0, 1, v0), (2, 1, v2)] fun v4 =>
pBox h3 91 v4 fun v5 h6 =>
some (v5, h6)
theorem S27_eq (c : CV) (a0 a1 : AV) (h : AH) : enterK Try.prog NN P27 c 27 [a0, a1] h = S27 c a0 a1 h := by kernel_rfl
def W27 (c : CV) (l : List AV) (h : AH) : R := match l with | [a0, a1] => S27 c a0 a1 h | _ => none
theorem W27_ok : WOk Try.prog 27 W27 := by
  intro c l h r e
  unfold W27 at e
  split at e
  · exact ⟨P27, by rw [S27_eq]; exact e⟩
  · cases e
/- (*quietus/view.View).Need -/
def P28 : Pl := .z
def S28 (_ : CV) (a0 : AV) (h : AH) : R :=
pNil a0 fun v0 =>
pFieldA v0 3 fun v1 =>
pLoad1 h v1 fun v2 =>
some (v2, h)
theorem S28_eq (c : CV) (a0 : AV) (h : AH) : enterK Try.prog NN P28 c 28 [a0] h = S28 c a0 h := by kernel_rfl
def W28 (c : CV) (l : List AV) (h : AH) : R := match l with | [a0] => S28 c a0 h | _ => none
theorem W28_ok : WOk Try.prog 28 W28 := by
  intro c l h r e
  unfold W28 at e
  split at e
  · exact ⟨P28, by rw [S28_eq]; exact e⟩
  · cases e
/- (*quietus/view.View).Know -/
def P29 : Pl := .z
def S29 (c : CV) (a0 a1 a2 : AV) (h : AH) : R :=
pCall c (.fn 64 [] []) [a0, a1] h fun v0 h1 =>
pUn .not v0 fun v2 =>
pCond v2 (
some ((.int .i64 (.ofNat 2)), h1)) (
pNil a0 fun v3 =>
pFieldA v3 0 fun v4 =>
pLoad1 h1 v4 fun v5 =>
pIdxS v5 a1 2 fun v6 =>
pLoadN h1 v6 2 fun v7 =>
pBox h1 105 (.agg [(.int .u64 (.ofNat 0)), (.bool false)]) fun v8 h9 =>
pStore h9 v8 v7 2 fun h10 =>
pFieldA v8 1 fun v11 =>
pLoad1 h10 v11 fun v12 =>
pCond v12 (
pFieldA v8 0 fun v13 =>
pLoad1 h10 v13 fun v14 =>
pInt .neq v14 a2 fun v15 =>
pCond v15 (
some ((.int .i64 (.ofNat 14)), h10)) (
some ((.int .i64 (.ofNat 0)), h10))) (
pNil a0 fun v16 =>
pFieldA v16 0 fun v17 =>
pLoad1 h10 v17 fun v18 =>
pBuild [(.int .u64 (.ofNat 0)), (.bool false)] [(0, 1, a2), (1, 1, (.bool true))] fun v19 =>
pIdxS v18 a1 2 fun v20 =>
pStore h10 v20 v19 2 fun h21 =>
pNil a0 fun v22 =>
pFieldA v22 1 fun v23 =>
pLoad1 h21 v23 fun v24 =>
pBuildS h21 3 [(.int .i64 (.ofNat 0))] 1 [(0, 1, a1)] fun v25 h26 =>
pAppend h26 3 1 v24 v25 fun v27 h28 =>
pNil a0 fun v29 =>
pFieldA v29 1 fun v30 =>
pStore h28 v30 v27 1 fun h31 =>
some ((.int .i64 (.ofNat 0)), h31)))
theorem S29_eq (c : CV) (a0 a1 a2 : AV) (h : AH) : enterK Try.prog NN P29 c 29 [a0, a1, a2] h = S29 c a0 a1 a2 h := by kernel_rfl
def W29 (c : CV) (l : List AV) (h : AH) : R := match l with | [a0, a1, a2] => S29 c a0 a1 a2 h | _ => none
theorem W29_ok : WOk Try.prog 29 W29 := by
  intro c l h r e
  unfold W29 at e
  split at e
  · exact ⟨P29, by rw [S29_eq]; exact e⟩
  · cases e
/- (*quietus/quietusref7.View).Know -/
def P30 : Pl := .z
def S30 (c : CV) (a0 a1 a2 : AV) (h : AH) : R :=
pCall c (.fn 49 [] []) [a0, a1] h fun v0 h1 =>
pUn .not v0 fun v2 =>
pCond v2 (
some ((.int .i64 (.ofNat 2)), h1)) (
pNil a0 fun v3 =>
pFieldA v3 1 fun v4 =>
pLoad1 h1 v4 fun v5 =>
pCall c (.fn 65 [] []) [v5, a1] h1 fun v6 h7 =>
pInt .geq v6 (.int .i64 (.ofNat 0)) fun v8 =>
pCond v8 (
pNil a0 fun v9 =>
pFieldA v9 1 fun v10 =>
pLoad1 h7 v10 fun v11 =>
pIdxS v11 v6 2 fun v12 =>
pFieldA v12 1 fun v13 =>
pLoad1 h7 v13 fun v14 =>
pInt .neq v14 a2 fun v15 =>
pCond v15 (
some ((.int .i64 (.ofNat 14)), h7)) (
some ((.int .i64 (.ofNat 0)), h7))) (
pNil a0 fun v16 =>
pFieldA v16 1 fun v17 =>
pLoad1 h7 v17 fun v18 =>
pBuild [(.int .i64 (.ofNat 0)), (.int .u64 (.ofNat 0))] [(0, 1, a1), (1, 1, a2)] fun v19 =>
pBuildS h7 83 [(.int .i64 (.ofNat 0)), (.int .u64 (.ofNat 0))] 1 [(0, 2, v19)] fun v20 h21 =>
pAppend h21 83 2 v18 v20 fun v22 h23 =>
pNil a0 fun v24 =>
pFieldA v24 1 fun v25 =>
pStore h23 v25 v22 1 fun h26 =>
some ((.int .i64 (.ofNat 0)), h26)))
theorem S30_eq (c : CV) (a0 a1 a2 : AV) (h : AH) : enterK Try.prog NN P30 c 30 [a0, a1, a2] h = S30 c a0 a1 a2 h := by kernel_rfl
def W30 (c : CV) (l : List AV) (h : AH) : R := match l with | [a0, a1, a2] => S30 c a0 a1 a2 h | _ => none
theorem W30_ok : WOk Try.prog 30 W30 := by
  intro c l h r e
  unfold W30 at e
  split at e
  · exact ⟨P30, by rw [S30_eq]; exact e⟩
  · cases e
/- quietus/arena.Blocks -/
def P31 : Pl := (.n none .z (.n none .z (.n none (.n none (.r [[17, 15, 4, 0], [23, 19, 4, 0], [31, 25, 0]]) .z) (.n none .z (.n none .z (.n none (.n none .z (.n none (.n (some [7, 6, 5, 0]) (.n none .z (.n none (.n none .z (.n none .z (.n none (.n none (.r [[58, 55, 10, 9, 8, 7, 6, 5, 0]]) .z) .z))) .z)) .z) .z)) .z))))))
def S31 (c : CV) (a0 : AV) (h : AH) : R :=
pLenS a0 fun v0 =>
pInt .lss v0 (.int .i64 (.ofNat 32)) fun v1 =>
joinC (α := AV × AV × AV × AV × Unit → AH → R) (fun s2 h3 =>
pPick s2.2.1 (.bool true) s2.1 fun v5 =>
joinC (α := AV × AV × AV × AV × Unit → AH → R) (fun s6 h7 =>
pPick s6.2.1 (.bool true) s6.1 fun v9 =>
joinC (α := AV × AV × AV × Unit → AH → R) (fun s10 h11 =>
pPick s10.2.1 (.bool true) s10.1 fun v13 =>
pCond v13 (
some ((.tup [.nils, (.int .i64 (.ofNat 12))]), h11)) (
pIdxS s10.2.2.1 (.int .i64 (.ofNat 5)) 1 fun v14 =>
pLoad1 h11 v14 fun v15 =>
pConvI .i64 v15 fun v16 =>
loopC (σ := AV × AV × AV × AV × Unit) NN (fun i20 s17 h18 d19 =>
pInt .lss s17.1 s17.2.2.1 fun v21 =>
pCond v21 (
pIdxS s17.2.2.2.1 s17.1 1 fun v22 =>
pLoad1 h18 v22 fun v23 =>
pCall c (.fn 66 [] []) [v23] h18 fun v24 h25 =>
pExtract v24 0 fun v26 =>
pExtract v24 1 fun v27 =>
pInt .add s17.1 (.int .i64 (.ofNat 1)) fun v28 =>
pCall c (.fn 17 [] []) [v26] h25 fun v29 h30 =>
pInt .add v28 v29 fun v31 =>
pInt .eql v26 (.int .i64 (.ofNat 0)) fun v32 =>
joinC (α := AV × AV × AV × AV × AV × AV × AV × AV × AV × Unit → AH → R) (fun s33 h34 =>
pPick s33.2.1 (.bool true) s33.1 fun v36 =>
pCond v36 (
pLeave d19 h34 fun h37 =>
some ((.tup [.nils, (.int .i64 (.ofNat 12))]), h37)) (
pInt .add s33.2.2.2.2.2.1 (.int .i64 (.ofNat 1)) fun v38 =>
pBuild [(.int .i64 (.ofNat 0)), (.int .i64 (.ofNat 0)), (.bool false)] [(0, 1, v38), (1, 1, s33.2.2.2.2.1), (2, 1, s33.2.2.2.1)] fun v39 =>
pBuildS h34 71 [(.int .i64 (.ofNat 0)), (.int .i64 (.ofNat 0)), (.bool false)] 1 [(0, 3, v39)] fun v40 h41 =>
pAppend h41 71 3 s33.2.2.2.2.2.2.1 v40 fun v42 h43 =>
i20 (s33.2.2.1, v42, s33.2.2.2.2.2.2.2.1, s33.2.2.2.2.2.2.2.2.1, ()) h43 d19)) fun j35 =>
pWant v32 false (
pInt .gtr v31 s17.2.2.1 fun v44 =>
j35 (v44, v32, v31, v27, v26, s17.1, s17.2.1, s17.2.2.1, s17.2.2.2.1, ()) h30) (
j35 (.undef, v32, v31, v27, v26, s17.1, s17.2.1, s17.2.2.1, s17.2.2.2.1, ()) h30)) (
pLeave d19 h18 fun h45 =>
some ((.tup [s17.2.1, (.int .i64 (.ofNat 0))]), h45))) ((.int .i64 (.ofNat 14)), .nils, v16, s10.2.2.1, ()) h11 [])) fun j12 =>
pWant v9 false (
pIdxS s6.2.2.2.1 (.int .i64 (.ofNat 5)) 1 fun v46 =>
pLoad1 h7 v46 fun v47 =>
pConvI .u64 s6.2.2.1 fun v48 =>
pInt .gtr v47 v48 fun v49 =>
j12 (v49, v9, s6.2.2.2.1, ()) h7) (
j12 (.undef, v9, s6.2.2.2.1, ()) h7)) fun j8 =>
pWant v5 false (
pIdxS s2.2.2.2.1 (.int .i64 (.ofNat 5)) 1 fun v50 =>
pLoad1 h3 v50 fun v51 =>
pInt .lss v51 (.int .u64 (.ofNat 14)) fun v52 =>
j8 (v52, v5, s2.2.2.1, s2.2.2.2.1, ()) h3) (
j8 (.undef, v5, s2.2.2.1, s2.2.2.2.1, ()) h3)) fun j4 =>
pWant v1 false (
pInt .gtr v0 (.int .i64 (.ofNat 256)) fun v53 =>
j4 (v53, v1, v0, a0, ()) h) (
j4 (.undef, v1, v0, a0, ()) h)
theorem S31_eq (c : CV) (a0 : AV) (h : AH) : enterK Try.prog NN P31 c 31 [a0] h = S31 c a0 h := by kernel_rfl
def W31 (c : CV) (l : List AV) (h : AH) : R := match l with | [a0] => S31 c a0 h | _ => none
theorem W31_ok : WOk Try.prog 31 W31 := by
  intro c l h r e
  unfold W31 at e
  split at e
  · exact ⟨P31, by rw [S31_eq]; exact e⟩
  · cases e
/- quietus/quietusref7.Blocks -/
def P32 : Pl := (.n none .z (.n none (.n none (.r [[15, 12, 0]]) .z) (.n none .z (.n none (.n none (.r [[27, 23, 4, 0]]) .z) (.n none .z (.n none .z (.n none (.n none (.n (some [6, 5, 4, 0]) (.n none .z (.n none (.n none .z (.n none .z (.n none .z (.n none .z (.n (some [8, 6, 5, 4, 0]) .z (.n none (.n none (.r [[64, 56, 8, 6, 5, 4, 0]]) .z) .z)))))) .z)) .z) .z) .z)))))))
def S32 (c : CV) (a0 : AV) (h : AH) : R :=
pLenS a0 fun v0 =>
pInt .lss v0 (.int .i64 (.ofNat 32)) fun v1 =>
joinC (α := AV × AV × AV × Unit → AH → R) (fun s2 h3 =>
pPick s2.2.1 (.bool true) s2.1 fun v5 =>
pCond v5 (
some ((.tup [.nils, (.bool false)]), h3)) (
pIdxS s2.2.2.1 (.int .i64 (.ofNat 5)) 1 fun v6 =>
pLoad1 h3 v6 fun v7 =>
pCall c (.fn 67 [] []) [v7] h3 fun v8 h9 =>
pInt .lss v8 (.int .i64 (.ofNat 14)) fun v10 =>
joinC (α := AV × AV × AV × AV × Unit → AH → R) (fun s11 h12 =>
pPick s11.2.1 (.bool true) s11.1 fun v14 =>
pCond v14 (
some ((.tup [.nils, (.bool false)]), h12)) (
loopC (σ := AV × AV × AV × AV × Unit) NN (fun i18 s15 h16 d17 =>
pInt .lss s15.1 s15.2.2.1 fun v19 =>
pCond v19 (
pIdxS s15.2.2.2.1 s15.1 1 fun v20 =>
pLoad1 h16 v20 fun v21 =>
pInt .add s15.1 (.int .i64 (.ofNat 1)) fun v22 =>
pInt .gtr v21 (.int .u64 (.ofNat 8)) fun v23 =>
pBuild [(.int .i64 (.ofNat 0)), (.int .i64 (.ofNat 0)), (.bool false)] [(0, 1, v22), (2, 1, v23)] fun v24 =>
pBox h16 71 (.agg [(.int .i64 (.ofNat 0)), (.int .i64 (.ofNat 0)), (.bool false)]) fun v25 h26 =>
pStore h26 v25 v24 3 fun h27 =>
pInt .gtr v21 (.int .u64 (.ofNat 16)) fun v28 =>
pCond v28 (
pLeave d17 h27 fun h29 =>
some ((.tup [.nils, (.bool false)]), h29)) (
pConvI .i64 v21 fun v30 =>
pFieldA v25 1 fun v31 =>
pStore h27 v31 v30 1 fun h32 =>
joinC (α := AV × AV × AV × AV × AV × Unit → AH → List Nat → R) (fun s33 h34 d35 =>
pFieldA s33.1 1 fun v37 =>
pLoad1 h34 v37 fun v38 =>
pCall c (.fn 68 [] []) [v38] h34 fun v39 h40 =>
pInt .eql v39 (.int .i64 (.ofNat 0)) fun v41 =>
joinC (α := AV × AV × AV × AV × AV × AV × AV × Unit → AH → R) (fun s42 h43 =>
pPick s42.2.1 (.bool true) s42.1 fun v45 =>
pCond v45 (
pLeave d35 h43 fun h46 =>
some ((.tup [.nils, (.bool false)]), h46)) (
pLoadN h43 s42.2.2.1 3 fun v47 =>
pBuildS h43 71 [(.int .i64 (.ofNat 0)), (.int .i64 (.ofNat 0)), (.bool false)] 1 [(0, 3, v47)] fun v48 h49 =>
pAppend h49 71 3 s42.2.2.2.2.1 v48 fun v50 h51 =>
pInt .add s42.2.2.2.1 (.int .i64 (.ofNat 1)) fun v52 =>
pFieldA s42.2.2.1 1 fun v53 =>
pLoad1 h51 v53 fun v54 =>
pCall c (.fn 68 [] []) [v54] h51 fun v55 h56 =>
pInt .add v52 v55 fun v57 =>
i18 (v57, v50, s42.2.2.2.2.2.1, s42.2.2.2.2.2.2.1, ()) h56 d35)) fun j44 =>
pWant v41 false (
pInt .add s33.2.1 (.int .i64 (.ofNat 1)) fun v58 =>
pFieldA s33.1 1 fun v59 =>
pLoad1 h40 v59 fun v60 =>
pCall c (.fn 68 [] []) [v60] h40 fun v61 h62 =>
pInt .add v58 v61 fun v63 =>
pInt .gtr v63 s33.2.2.2.1 fun v64 =>
j44 (v64, v41, s33.1, s33.2.1, s33.2.2.1, s33.2.2.2.1, s33.2.2.2.2.1, ()) h62) (
j44 (.undef, v41, s33.1, s33.2.1, s33.2.2.1, s33.2.2.2.1, s33.2.2.2.2.1, ()) h40)) fun j36 =>
pFieldA v25 2 fun v65 =>
pLoad1 h32 v65 fun v66 =>
pCond v66 (
pConvI .i64 v21 fun v67 =>
pInt .sub v67 (.int .i64 (.ofNat 8)) fun v68 =>
pFieldA v25 1 fun v69 =>
pStore h32 v69 v68 1 fun h70 =>
j36 (v25, s15.1, s15.2.1, s15.2.2.1, s15.2.2.2.1, ()) h70 d17) (
j36 (v25, s15.1, s15.2.1, s15.2.2.1, s15.2.2.2.1, ()) h32 d17))) (
pLeave d17 h16 fun h71 =>
some ((.tup [s15.2.1, (.bool true)]), h71))) ((.int .i64 (.ofNat 14)), .nils, s11.2.2.1, s11.2.2.2.1, ()) h12 [])) fun j13 =>
pWant v10 false (
pLenS s2.2.2.1 fun v72 =>
pInt .gtr v8 v72 fun v73 =>
j13 (v73, v10, v8, s2.2.2.1, ()) h9) (
j13 (.undef, v10, v8, s2.2.2.1, ()) h9))) fun j4 =>
pWant v1 false (
pLenS a0 fun v74 =>
pInt .gtr v74 (.int .i64 (.ofNat 256)) fun v75 =>
j4 (v75, v1, a0, ()) h) (
j4 (.undef, v1, a0, ()) h)
theorem S32_eq (c : CV) (a0 : AV) (h : AH) : enterK Try.prog NN P32 c 32 [a0] h = S32 c a0 h := by kernel_rfl
def W32 (c : CV) (l : List AV) (h : AH) : R := match l with | [a0] => S32 c a0 h | _ => none
theorem W32_ok : WOk Try.prog 32 W32 := by
  intro c l h r e
  unfold W32 at e
  split at e
  · exact ⟨P32, by rw [S32_eq]; exact e⟩
  · cases e
/- quietus/arena.Lists -/
def P33 : Pl := (.n none .z (.n none .z (.n none .z (.n none .z (.n none (.n none .z (.n none (.n (some [7, 6, 4, 0]) (.n none .z (.n none (.n none (.n none .z (.n none (.n (some [8, 7, 6, 4, 0]) (.n none .z (.n none (.n none (.n none .z (.n none (.n none (.r [[46, 35, 9, 8, 7, 6, 4, 0]]) .z) (.n none (.r [[9, 8, 7, 6, 4, 0]]) .z))) .z) .z)) .z) .z)) .z) .z)) .z) .z)) .z)))))
def S33 (c : CV) (a0 : AV) (h : AH) : R :=
pCall c (.fn 31 [] []) [a0] h fun v0 h1 =>
pExtract v0 0 fun v2 =>
pExtract v0 1 fun v3 =>
pInt .neq v3 (.int .i64 (.ofNat 0)) fun v4 =>
pCond v4 (
some ((.tup [.nils, v3]), h1)) (
pMake h1 30 [.nils] (.int .i64 (.ofNat 4)) (.int .i64 (.ofNat 4)) fun v5 h6 =>
pBox h6 3 (.int .i64 (.ofNat 0)) fun v7 h8 =>
pStore h8 v7 (.int .i64 (.ofNat 1)) 1 fun h9 =>
loopC (σ := AV × AV × AV × AV × Unit) NN (fun i13 s10 h11 d12 =>
pLoad1 h11 s10.1 fun v14 =>
pInt .leq v14 (.int .i64 (.ofNat 4)) fun v15 =>
pCond v15 (
pLoad1 h11 s10.1 fun v16 =>
pCall c (.fn 41 [] []) [v16] h11 fun v17 h18 =>
pIdxS s10.2.2.2.1 v17 1 fun v19 =>
pLoad1 h18 v19 fun v20 =>
pBox h18 43 (.int .u64 (.ofNat 0)) fun v21 h22 =>
pStore h22 v21 v20 1 fun h23 =>
loopC (σ := AV × AV × AV × AV × AV × Unit) NN (fun i27 s24 h25 d26 =>
pLoad1 h25 s24.1 fun v28 =>
pInt .neq v28 (.int .u64 (.ofNat 0)) fun v29 =>
pCond v29 (
pCall c (.fn 69 [] []) [s24.2.2.2.1, (.fn 70 [] [s24.1, s24.2.1])] h25 fun v30 h31 =>
pInt .lss v30 (.int .i64 (.ofNat 0)) fun v32 =>
joinC (α := AV × AV × AV × AV × AV × AV × AV × AV × Unit → AH → R) (fun s33 h34 =>
pPick s33.2.1 (.bool true) s33.1 fun v36 =>
pCond v36 (
pLeave d26 h34 fun h37 =>
some ((.tup [.nils, (.int .i64 (.ofNat 12))]), h37)) (
joinC (α := AV × AV × AV × AV × AV × AV × Unit → AH → R) (fun s38 h39 =>
pIdxS s38.2.2.2.2.1 s38.1 3 fun v41 =>
pFieldA v41 0 fun v42 =>
pLoad1 h39 v42 fun v43 =>
pIdxS s38.2.2.2.2.2.1 v43 1 fun v44 =>
pLoad1 h39 v44 fun v45 =>
pStore h39 s38.2.1 v45 1 fun h46 =>
pLoad1 h46 s38.2.1 fun v47 =>
pBox h46 43 (.int .u64 (.ofNat 0)) fun v48 h49 =>
pStore h49 v48 v47 1 fun h50 =>
i27 (v48, s38.2.2.1, s38.2.2.2.1, s38.2.2.2.2.1, s38.2.2.2.2.2.1, ()) h50 d26) fun j40 =>
pLoad1 h34 s33.2.2.2.2.1 fun v51 =>
pInt .sub v51 (.int .i64 (.ofNat 1)) fun v52 =>
pLoad1 h34 s33.2.2.2.2.1 fun v53 =>
pInt .sub v53 (.int .i64 (.ofNat 1)) fun v54 =>
pIdxS s33.2.2.2.2.2.1 v54 1 fun v55 =>
pLoad1 h34 v55 fun v56 =>
pIdxS s33.2.2.2.2.2.2.1 s33.2.2.1 3 fun v57 =>
pFieldA v57 0 fun v58 =>
pLoad1 h34 v58 fun v59 =>
pBuildS h34 3 [(.int .i64 (.ofNat 0))] 1 [(0, 1, v59)] fun v60 h61 =>
pAppend h61 3 1 v56 v60 fun v62 h63 =>
pIdxS s33.2.2.2.2.2.1 v52 1 fun v64 =>
pStore h63 v64 v62 1 fun h65 =>
pChk s33.2.2.2.2.1 none v51 h61 h63 h34.nx <|
j40 (s33.2.2.1, s33.2.2.2.1, s33.2.2.2.2.1, s33.2.2.2.2.2.1, s33.2.2.2.2.2.2.1, s33.2.2.2.2.2.2.2.1, ()) h65)) fun j35 =>
pWant v32 false (
pLoad1 h31 s24.2.1 fun v66 =>
pInt .sub v66 (.int .i64 (.ofNat 1)) fun v67 =>
pIdxS s24.2.2.1 v67 1 fun v68 =>
pLoad1 h31 v68 fun v69 =>
pIdxS s24.2.2.2.1 v30 3 fun v70 =>
pFieldA v70 0 fun v71 =>
pLoad1 h31 v71 fun v72 =>
pCall c (.fn 71 [] []) [v69, v72] h31 fun v73 h74 =>
j35 (v73, v32, v30, s24.1, s24.2.1, s24.2.2.1, s24.2.2.2.1, s24.2.2.2.2.1, ()) h74) (
j35 (.undef, v32, v30, s24.1, s24.2.1, s24.2.2.1, s24.2.2.2.1, s24.2.2.2.2.1, ()) h31)) (
pLoad1 h25 s24.2.1 fun v75 =>
pBox h25 3 (.int .i64 (.ofNat 0)) fun v76 h77 =>
pStore h77 v76 v75 1 fun h78 =>
pLoad1 h78 v76 fun v79 =>
pInt .add v79 (.int .i64 (.ofNat 1)) fun v80 =>
pStore h78 v76 v80 1 fun h81 =>
i13 (v76, s24.2.2.1, s24.2.2.2.1, s24.2.2.2.2.1, ()) h81 d26)) (v21, s10.1, s10.2.1, s10.2.2.1, s10.2.2.2.1, ()) h23 d12) (
pLeave d12 h11 fun h82 =>
some ((.tup [s10.2.1, (.int .i64 (.ofNat 0))]), h82))) (v7, v5, v2, a0, ()) h9 [])
theorem S33_eq (c : CV) (a0 : AV) (h : AH) : enterK Try.prog NN P33 c 33 [a0] h = S33 c a0 h := by kernel_rfl
def W33 (c : CV) (l : List AV) (h : AH) : R := match l with | [a0] => S33 c a0 h | _ => none
theorem W33_ok : WOk Try.prog 33 W33 := by
  intro c l h r e
  unfold W33 at e
  split at e
  · exact ⟨P33, by rw [S33_eq]; exact e⟩
  · cases e
/- quietus/quietusref7.Lists -/
def P34 : Pl := (.n none .z (.n none .z (.n none .z (.n none .z (.n none (.n none .z (.n none (.n (some [7, 6, 4, 0]) (.n none .z (.n none (.n none (.n none .z (.n none .z (.n none (.n none (.n (some [9, 8, 7, 6, 4, 0]) (.n none .z (.n none (.n none .z (.n none (.n none .z (.n none (.n (some [11, 10, 9, 8, 7, 6, 4, 0]) (.n none .z (.n none (.n (some [11, 10, 9, 8, 7, 6, 4, 0]) (.n none (.r [[53, 46, 11, 10, 9, 8, 7, 6, 4, 0], [61, 55, 11, 10, 9, 8, 7, 6, 4, 0]]) .z) .z) .z)) .z) .z)) (.n none (.n none .z (.n none (.n (some [12, 10, 9, 8, 7, 6, 4, 0]) (.n none .z (.n none (.n (some [12, 10, 9, 8, 7, 6, 4, 0]) .z .z) .z)) .z) .z)) .z))) .z)) .z) .z) .z))) .z) .z)) .z) .z)) .z)))))
def S34 (c : CV) (a0 : AV) (h : AH) : R :=
pCall c (.fn 32 [] []) [a0] h fun v0 h1 =>
pExtract v0 0 fun v2 =>
pExtract v0 1 fun v3 =>
pUn .not v3 fun v4 =>
pCond v4 (
some ((.tup [.nils, (.bool false)]), h1)) (
loopC (σ := AV × AV × AV × AV × Unit) NN (fun i8 s5 h6 d7 =>
pInt .leq s5.1 (.int .i64 (.ofNat 4)) fun v9 =>
pCond v9 (
pInt .add (.int .i64 (.ofNat 1)) s5.1 fun v10 =>
pInt .sub v10 (.int .i64 (.ofNat 1)) fun v11 =>
pIdxS s5.2.2.2.1 v11 1 fun v12 =>
pLoad1 h6 v12 fun v13 =>
loopC (σ := AV × AV × AV × AV × AV × AV × Unit) NN (fun i17 s14 h15 d16 =>
pInt .neq s14.1 (.int .u64 (.ofNat 0)) fun v18 =>
pCond v18 (
loopC (σ := AV × AV × AV × AV × AV × AV × AV × AV × Unit) NN (fun i22 s19 h20 d21 =>
pLenS s19.2.2.2.2.2.2.1 fun v23 =>
pInt .lss s19.1 v23 fun v24 =>
pCond v24 (
joinC (α := AV × AV × AV × AV × AV × AV × AV × AV × Unit → AH → List Nat → R) (fun s25 h26 d27 =>
pInt .add s25.1 (.int .i64 (.ofNat 1)) fun v29 =>
i22 (v29, s25.2.1, s25.2.2.1, s25.2.2.2.1, s25.2.2.2.2.1, s25.2.2.2.2.2.1, s25.2.2.2.2.2.2.1, s25.2.2.2.2.2.2.2.1, ()) h26 d27) fun j28 =>
pIdxS s19.2.2.2.2.2.2.1 s19.1 3 fun v30 =>
pFieldA v30 0 fun v31 =>
pLoad1 h20 v31 fun v32 =>
pConvI .u64 v32 fun v33 =>
pInt .eql v33 s19.2.2.1 fun v34 =>
joinC (α := AV × AV × AV × AV × AV × AV × AV × AV × AV × AV × Unit → AH → R) (fun s35 h36 =>
pPick s35.2.1 s35.1 (.bool false) fun v38 =>
joinC (α := AV × AV × AV × AV × AV × AV × AV × AV × AV × AV × Unit → AH → R) (fun s39 h40 =>
pPick s39.2.1 s39.1 (.bool false) fun v42 =>
pCond v42 (
j28 (s39.2.2.1, (.bool true), s39.2.2.2.2.1, s39.2.2.2.2.2.1, s39.2.2.2.2.2.2.1, s39.2.2.2.2.2.2.2.1, s39.2.2.2.2.2.2.2.2.1, s39.2.2.2.2.2.2.2.2.2.1, ()) h40 d21) (
j28 (s39.2.2.1, s39.2.2.2.1, s39.2.2.2.2.1, s39.2.2.2.2.2.1, s39.2.2.2.2.2.2.1, s39.2.2.2.2.2.2.2.1, s39.2.2.2.2.2.2.2.2.1, s39.2.2.2.2.2.2.2.2.2.1, ()) h40 d21)) fun j41 =>
pWant v38 true (
pIdxS s35.2.2.2.2.2.2.2.2.1 s35.2.2.1 3 fun v43 =>
pFieldA v43 2 fun v44 =>
pLoad1 h36 v44 fun v45 =>
pUn .not v45 fun v46 =>
j41 (v46, v38, s35.2.2.1, s35.2.2.2.1, s35.2.2.2.2.1, s35.2.2.2.2.2.1, s35.2.2.2.2.2.2.1, s35.2.2.2.2.2.2.2.1, s35.2.2.2.2.2.2.2.2.1, s35.2.2.2.2.2.2.2.2.2.1, ()) h36) (
j41 (.undef, v38, s35.2.2.1, s35.2.2.2.1, s35.2.2.2.2.1, s35.2.2.2.2.2.1, s35.2.2.2.2.2.2.1, s35.2.2.2.2.2.2.2.1, s35.2.2.2.2.2.2.2.2.1, s35.2.2.2.2.2.2.2.2.2.1, ()) h36)) fun j37 =>
pWant v34 true (
pIdxS s19.2.2.2.2.2.2.1 s19.1 3 fun v47 =>
pFieldA v47 1 fun v48 =>
pLoad1 h20 v48 fun v49 =>
pInt .eql v49 s19.2.2.2.2.1 fun v50 =>
j37 (v50, v34, s19.1, s19.2.1, s19.2.2.1, s19.2.2.2.1, s19.2.2.2.2.1, s19.2.2.2.2.2.1, s19.2.2.2.2.2.2.1, s19.2.2.2.2.2.2.2.1, ()) h20) (
j37 (.undef, v34, s19.1, s19.2.1, s19.2.2.1, s19.2.2.2.1, s19.2.2.2.2.1, s19.2.2.2.2.2.1, s19.2.2.2.2.2.2.1, s19.2.2.2.2.2.2.2.1, ()) h20)) (
loopC (σ := AV × AV × AV × AV × AV × AV × AV × AV × Unit) NN (fun i54 s51 h52 d53 =>
pLenS s51.2.2.2.1 fun v55 =>
pInt .lss s51.1 v55 fun v56 =>
pCond v56 (
joinC (α := AV × AV × AV × AV × AV × AV × AV × AV × Unit → AH → List Nat → R) (fun s57 h58 d59 =>
pInt .add s57.1 (.int .i64 (.ofNat 1)) fun v61 =>
i54 (v61, s57.2.1, s57.2.2.1, s57.2.2.2.1, s57.2.2.2.2.1, s57.2.2.2.2.2.1, s57.2.2.2.2.2.2.1, s57.2.2.2.2.2.2.2.1, ()) h58 d59) fun j60 =>
pIdxS s51.2.2.2.1 s51.1 1 fun v62 =>
pLoad1 h52 v62 fun v63 =>
pConvI .u64 v63 fun v64 =>
pInt .eql v64 s51.2.2.1 fun v65 =>
pCond v65 (
j60 (s51.1, (.bool false), s51.2.2.1, s51.2.2.2.1, s51.2.2.2.2.1, s51.2.2.2.2.2.1, s51.2.2.2.2.2.2.1, s51.2.2.2.2.2.2.2.1, ()) h52 d53) (
j60 (s51.1, s51.2.1, s51.2.2.1, s51.2.2.2.1, s51.2.2.2.2.1, s51.2.2.2.2.2.1, s51.2.2.2.2.2.2.1, s51.2.2.2.2.2.2.2.1, ()) h52 d53)) (
pUn .not s51.2.1 fun v66 =>
pCond v66 (
pLeave d53 h52 fun h67 =>
some ((.tup [.nils, (.bool false)]), h67)) (
pConvI .i64 s51.2.2.1 fun v68 =>
pBuildS h52 3 [(.int .i64 (.ofNat 0))] 1 [(0, 1, v68)] fun v69 h70 =>
pAppend h70 3 1 s51.2.2.2.1 v69 fun v71 h72 =>
pConvI .i64 s51.2.2.1 fun v73 =>
pIdxS s51.2.2.2.2.2.2.2.1 v73 1 fun v74 =>
pLoad1 h72 v74 fun v75 =>
i17 (v75, v71, s51.2.2.2.2.1, s51.2.2.2.2.2.1, s51.2.2.2.2.2.2.1, s51.2.2.2.2.2.2.2.1, ()) h72 d53))) ((.int .i64 (.ofNat 0)), s19.2.1, s19.2.2.1, s19.2.2.2.1, s19.2.2.2.2.1, s19.2.2.2.2.2.1, s19.2.2.2.2.2.2.1, s19.2.2.2.2.2.2.2.1, ()) h20 d21)) ((.int .i64 (.ofNat 0)), (.bool false), s14.1, s14.2.1, s14.2.2.1, s14.2.2.2.1, s14.2.2.2.2.1, s14.2.2.2.2.2.1, ()) h15 d16) (
pBuildS h15 30 [.nils] 1 [(0, 1, s14.2.1)] fun v76 h77 =>
pAppend h77 30 1 s14.2.2.2.1 v76 fun v78 h79 =>
pInt .add s14.2.2.1 (.int .i64 (.ofNat 1)) fun v80 =>
i8 (v80, v78, s14.2.2.2.2.1, s14.2.2.2.2.2.1, ()) h79 d16)) (v13, .nils, s5.1, s5.2.1, s5.2.2.1, s5.2.2.2.1, ()) h6 d7) (
pLeave d7 h6 fun h81 =>
some ((.tup [s5.2.1, (.bool true)]), h81))) ((.int .i64 (.ofNat 1)), .nils, v2, a0, ()) h1 [])
theorem S34_eq (c : CV) (a0 : AV) (h : AH) : enterK Try.prog NN P34 c 34 [a0] h = S34 c a0 h := by kernel_rfl
def W34 (c : CV) (l : List AV) (h : AH) : R := match l with | [a0] => S34 c a0 h | _ => none
theorem W34_ok : WOk Try.prog 34 W34 := by
  intro c l h r e
  unfold W34 at e
  split at e
  · exact ⟨P34, by rw [S34_eq]; exact e⟩
  · cases e
/- quietus/quietusbook.Same[quietus/api.Block] -/
def P35 : Pl := (.n none .z (.n none .z (.n none (.n none .z (.n none (.n (some [5, 1, 0]) .z .z) .z)) .z)))
def S35 (_ : CV) (a0 a1 : AV) (h : AH) : R :=
pLenS a0 fun v0 =>
pLenS a1 fun v1 =>
pInt .neq v0 v1 fun v2 =>
pCond v2 (
some ((.bool false), h)) (
loopC (σ := AV × AV × AV × Unit) NN (fun i6 s3 h4 d5 =>
pLenS s3.2.2.1 fun v7 =>
pInt .lss s3.1 v7 fun v8 =>
pCond v8 (
pIdxS s3.2.2.1 s3.1 3 fun v9 =>
pLoadN h4 v9 3 fun v10 =>
pIdxS s3.2.1 s3.1 3 fun v11 =>
pLoadN h4 v11 3 fun v12 =>
pEqS [.bas .int 0, .bas .int 1, .bas .bool 2] true v10 v12 fun v13 =>
pCond v13 (
pLeave d5 h4 fun h14 =>
some ((.bool false), h14)) (
pInt .add s3.1 (.int .i64 (.ofNat 1)) fun v15 =>
i6 (v15, s3.2.1, s3.2.2.1, ()) h4 d5)) (
pLeave d5 h4 fun h16 =>
some ((.bool true), h16))) ((.int .i64 (.ofNat 0)), a1, a0, ()) h [])
theorem S35_eq (c : CV) (a0 a1 : AV) (h : AH) : enterK Try.prog NN P35 c 35 [a0, a1] h = S35 c a0 a1 h := by kernel_rfl
def W35 (c : CV) (l : List AV) (h : AH) : R := match l with | [a0, a1] => S35 c a0 a1 h | _ => none
theorem W35_ok : WOk Try.prog 35 W35 := by
  intro c l h r e
  unfold W35 at e
  split at e
  · exact ⟨P35, by rw [S35_eq]; exact e⟩
  · cases e
/- quietus/quietusbook.Same[int] -/
def P36 : Pl := (.n none .z (.n none .z (.n none (.n none .z (.n none (.n (some [5, 1, 0]) .z .z) .z)) .z)))
def S36 (_ : CV) (a0 a1 : AV) (h : AH) : R :=
pLenS a0 fun v0 =>
pLenS a1 fun v1 =>
pInt .neq v0 v1 fun v2 =>
pCond v2 (
some ((.bool false), h)) (
loopC (σ := AV × AV × AV × Unit) NN (fun i6 s3 h4 d5 =>
pLenS s3.2.2.1 fun v7 =>
pInt .lss s3.1 v7 fun v8 =>
pCond v8 (
pIdxS s3.2.2.1 s3.1 1 fun v9 =>
pLoad1 h4 v9 fun v10 =>
pIdxS s3.2.1 s3.1 1 fun v11 =>
pLoad1 h4 v11 fun v12 =>
pInt .neq v10 v12 fun v13 =>
pCond v13 (
pLeave d5 h4 fun h14 =>
some ((.bool false), h14)) (
pInt .add s3.1 (.int .i64 (.ofNat 1)) fun v15 =>
i6 (v15, s3.2.1, s3.2.2.1, ()) h4 d5)) (
pLeave d5 h4 fun h16 =>
some ((.bool true), h16))) ((.int .i64 (.ofNat 0)), a1, a0, ()) h [])
theorem S36_eq (c : CV) (a0 a1 : AV) (h : AH) : enterK Try.prog NN P36 c 36 [a0, a1] h = S36 c a0 a1 h := by kernel_rfl
def W36 (c : CV) (l : List AV) (h : AH) : R := match l with | [a0, a1] => S36 c a0 a1 h | _ => none
theorem W36_ok : WOk Try.prog 36 W36 := by
  intro c l h r e
  unfold W36 at e
  split at e
  · exact ⟨P36, by rw [S36_eq]; exact e⟩
  · cases e
/- quietus/quietusbook.Within -/
def P37 : Pl := (.n none .z (.n none .z (.n (some [1, 0]) .z .z)))
def S37 (_ : CV) (a0 a1 a2 : AV) (h : AH) : R :=
pInt .sub a2 a1 fun v0 =>
pInt .add v0 (.int .i64 (.ofNat 1)) fun v1 =>
pInt .rem a0 v1 fun v2 =>
joinC (α := AV × AV × Unit → AH → List Nat → R) (fun s3 h4 d5 =>
pInt .add s3.1 s3.2.1 fun v7 =>
pLeave d5 h4 fun h8 =>
some (v7, h8)) fun j6 =>
pInt .lss v2 (.int .i64 (.ofNat 0)) fun v9 =>
pCond v9 (
pInt .add v2 a2 fun v10 =>
pInt .sub v10 a1 fun v11 =>
pInt .add v11 (.int .i64 (.ofNat 1)) fun v12 =>
j6 (a1, v12, ()) h []) (
j6 (a1, v2, ()) h [])
theorem S37_eq (c : CV) (a0 a1 a2 : AV) (h : AH) : enterK Try.prog NN P37 c 37 [a0, a1, a2] h = S37 c a0 a1 a2 h := by kernel_rfl
def W37 (c : CV) (l : List AV) (h : AH) : R := match l with | [a0, a1, a2] => S37 c a0 a1 a2 h | _ => none
theorem W37_ok : WOk Try.prog 37 W37 := by
  intro c l h r e
  unfold W37 at e
  split at e
  · exact ⟨P37, by rw [S37_eq]; exact e⟩
  · cases e
/- quietus/quietuslaw11.parted -/
def P38 : Pl := (.n none .z (.n none .z (.n none .z (.n none (.n none (.r [[31, 29, 7, 5, 1, 0], [36, 33, 7, 5, 1, 0]]) .z) (.n none .z (.n none (.n none .z (.n none (.n (some [10, 9, 7, 5, 1, 0]) (.n none .z (.n none (.n none (.n none .z (.n none (.n (some [11, 10, 9, 7, 5, 1, 0]) (.n none .z (.n none (.n none (.n none (.n none (.r [[70, 62, 11, 10, 9, 7, 5, 1, 0], [83, 72, 11, 10, 9, 7, 5, 1, 0]]) .z) .z) .z) .z)) .z) .z)) .z) .z)) .z) .z)) (.n none .z (.n none .z (.n none (.n none .z (.n none (.n (some [14, 13, 12, 9, 5, 1, 0]) (.n none .z (.n none (.n none (.n none .z (.n none (.n none (.r [[112, 109, 15, 14, 13, 9, 5, 1, 0], [123, 114, 15, 14, 13, 9, 5, 1, 0], [137, 125, 15, 14, 13, 9, 5, 1, 0], [145, 139, 15, 14, 13, 9, 5, 1, 0]]) .z) (.n none (.r [[14, 13, 12, 9, 5, 1, 0]]) .z))) .z) .z)) .z) .z)) (.n none (.n none .z (.n none (.n (some [16, 13, 12, 1, 0]) (.n none .z (.n none (.n (some [16, 13, 12, 1, 0]) .z .z) .z)) .z) .z)) (.n none (.r [[171, 168, 12, 0], [179, 173]]) .z)))))))))))
def S38 (c : CV) (a0 a1 : AV) (h : AH) : R :=
pCall c (.fn 31 [] []) [a0] h fun v0 h1 =>
pExtract v0 0 fun v2 =>
pExtract v0 1 fun v3 =>
pCall c (.fn 33 [] []) [a0] h1 fun v4 h5 =>
pExtract v4 0 fun v6 =>
pExtract v4 1 fun v7 =>
pInt .neq v3 (.int .i64 (.ofNat 0)) fun v8 =>
joinC (α := AV × AV × AV × AV × AV × AV × Unit → AH → R) (fun s9 h10 =>
pPick s9.2.1 (.bool true) s9.1 fun v12 =>
joinC (α := AV × AV × AV × AV × AV × AV × Unit → AH → R) (fun s13 h14 =>
pPick s13.2.1 (.bool true) s13.1 fun v16 =>
pCond v16 (
some ((.bool false), h14)) (
pMake h14 4 [(.bool false)] (.int .i64 (.ofNat 257)) (.int .i64 (.ofNat 257)) fun v17 h18 =>
loopC (σ := AV × AV × AV × AV × AV × AV × Unit) NN (fun i22 s19 h20 d21 =>
pLenS s19.2.2.1 fun v23 =>
pInt .lss s19.1 v23 fun v24 =>
pCond v24 (
loopC (σ := AV × AV × AV × AV × AV × AV × AV × Unit) NN (fun i28 s25 h26 d27 =>
pIdxS s25.2.2.2.1 s25.2.1 1 fun v29 =>
pLoad1 h26 v29 fun v30 =>
pLenS v30 fun v31 =>
pInt .lss s25.1 v31 fun v32 =>
pCond v32 (
pIdxS s25.2.2.2.1 s25.2.1 1 fun v33 =>
pLoad1 h26 v33 fun v34 =>
pIdxS v34 s25.1 1 fun v35 =>
pLoad1 h26 v35 fun v36 =>
pInt .lss v36 (.int .i64 (.ofNat 1)) fun v37 =>
joinC (α := AV × AV × AV × AV × AV × AV × AV × AV × AV × Unit → AH → R) (fun s38 h39 =>
pPick s38.2.1 (.bool true) s38.1 fun v41 =>
joinC (α := AV × AV × AV × AV × AV × AV × AV × AV × AV × Unit → AH → R) (fun s42 h43 =>
pPick s42.2.1 (.bool true) s42.1 fun v45 =>
pCond v45 (
pLeave d27 h43 fun h46 =>
some ((.bool false), h46)) (
pIdxS s42.2.2.2.2.2.1 s42.2.2.2.1 1 fun v47 =>
pLoad1 h43 v47 fun v48 =>
pIdxS v48 s42.2.2.1 1 fun v49 =>
pLoad1 h43 v49 fun v50 =>
pIdxS s42.2.2.2.2.1 v50 1 fun v51 =>
pStore h43 v51 (.bool true) 1 fun h52 =>
pInt .add s42.2.2.1 (.int .i64 (.ofNat 1)) fun v53 =>
i28 (v53, s42.2.2.2.1, s42.2.2.2.2.1, s42.2.2.2.2.2.1, s42.2.2.2.2.2.2.1, s42.2.2.2.2.2.2.2.1, s42.2.2.2.2.2.2.2.2.1, ()) h52 d27)) fun j44 =>
pWant v41 false (
pIdxS s38.2.2.2.2.2.1 s38.2.2.2.1 1 fun v54 =>
pLoad1 h39 v54 fun v55 =>
pIdxS v55 s38.2.2.1 1 fun v56 =>
pLoad1 h39 v56 fun v57 =>
pIdxS s38.2.2.2.2.2.2.2.1 v57 1 fun v58 =>
pLoad1 h39 v58 fun v59 =>
pInt .neq v59 (.int .i64 (.ofNat 3)) fun v60 =>
j44 (v60, v41, s38.2.2.1, s38.2.2.2.1, s38.2.2.2.2.1, s38.2.2.2.2.2.1, s38.2.2.2.2.2.2.1, s38.2.2.2.2.2.2.2.1, s38.2.2.2.2.2.2.2.2.1, ()) h39) (
j44 (.undef, v41, s38.2.2.1, s38.2.2.2.1, s38.2.2.2.2.1, s38.2.2.2.2.2.1, s38.2.2.2.2.2.2.1, s38.2.2.2.2.2.2.2.1, s38.2.2.2.2.2.2.2.2.1, ()) h39)) fun j40 =>
pWant v37 false (
pIdxS s25.2.2.2.1 s25.2.1 1 fun v61 =>
pLoad1 h26 v61 fun v62 =>
pIdxS v62 s25.1 1 fun v63 =>
pLoad1 h26 v63 fun v64 =>
pInt .gtr v64 (.int .i64 (.ofNat 256)) fun v65 =>
j40 (v65, v37, s25.1, s25.2.1, s25.2.2.1, s25.2.2.2.1, s25.2.2.2.2.1, s25.2.2.2.2.2.1, s25.2.2.2.2.2.2.1, ()) h26) (
j40 (.undef, v37, s25.1, s25.2.1, s25.2.2.1, s25.2.2.2.1, s25.2.2.2.2.1, s25.2.2.2.2.2.1, s25.2.2.2.2.2.2.1, ()) h26)) (
pInt .add s25.2.1 (.int .i64 (.ofNat 1)) fun v66 =>
i22 (v66, s25.2.2.1, s25.2.2.2.1, s25.2.2.2.2.1, s25.2.2.2.2.2.1, s25.2.2.2.2.2.2.1, ()) h26 d27)) ((.int .i64 (.ofNat 0)), s19.1, s19.2.1, s19.2.2.1, s19.2.2.2.1, s19.2.2.2.2.1, s19.2.2.2.2.2.1, ()) h20 d21) (
loopC (σ := AV × AV × AV × AV × AV × AV × AV × Unit) NN (fun i70 s67 h68 d69 =>
pLenS s67.2.2.2.2.1 fun v71 =>
pInt .lss s67.1 v71 fun v72 =>
pCond v72 (
pIdxS s67.2.2.2.2.1 s67.1 3 fun v73 =>
pLoadN h68 v73 3 fun v74 =>
pBox h68 71 (.agg [(.int .i64 (.ofNat 0)), (.int .i64 (.ofNat 0)), (.bool false)]) fun v75 h76 =>
pStore h76 v75 v74 3 fun h77 =>
pFieldA v75 0 fun v78 =>
pLoad1 h77 v78 fun v79 =>
pInt .add s67.2.2.1 (.int .i64 (.ofNat 1)) fun v80 =>
pInt .neq v79 v80 fun v81 =>
joinC (α := AV × AV × AV × AV × AV × AV × AV × AV × AV × Unit → AH → R) (fun s82 h83 =>
pPick s82.2.1 (.bool true) s82.1 fun v85 =>
joinC (α := AV × AV × AV × AV × AV × AV × AV × AV × AV × Unit → AH → R) (fun s86 h87 =>
pPick s86.2.1 (.bool true) s86.1 fun v89 =>
joinC (α := AV × AV × AV × AV × AV × AV × AV × AV × AV × Unit → AH → R) (fun s90 h91 =>
pPick s90.2.1 (.bool true) s90.1 fun v93 =>
joinC (α := AV × AV × AV × AV × AV × AV × AV × AV × AV × Unit → AH → R) (fun s94 h95 =>
pPick s94.2.1 (.bool true) s94.1 fun v97 =>
pCond v97 (
pLeave d69 h95 fun h98 =>
some ((.bool false), h98)) (
joinC (α := AV × AV × AV × AV × AV × AV × AV × Unit → AH → R) (fun s99 h100 =>
pInt .add s99.2.1 (.int .i64 (.ofNat 1)) fun v102 =>
pInt .add s99.1 (.int .i64 (.ofNat 1)) fun v103 =>
i70 (v103, v102, s99.2.2.1, s99.2.2.2.1, s99.2.2.2.2.1, s99.2.2.2.2.2.1, s99.2.2.2.2.2.2.1, ()) h100 d69) fun j101 =>
pFieldA s94.2.2.1 0 fun v104 =>
pLoad1 h95 v104 fun v105 =>
pFieldA s94.2.2.1 1 fun v106 =>
pLoad1 h95 v106 fun v107 =>
pCall c (.fn 17 [] []) [v107] h95 fun v108 h109 =>
pInt .add v105 v108 fun v110 =>
pChk v104 none v105 h95 h109 h95.nx <|
j101 (s94.2.2.2.1, s94.2.2.2.2.1, v110, s94.2.2.2.2.2.1, s94.2.2.2.2.2.2.1, s94.2.2.2.2.2.2.2.1, s94.2.2.2.2.2.2.2.2.1, ()) h109)) fun j96 =>
pWant v93 false (
pFieldA s90.2.2.1 0 fun v111 =>
pLoad1 h91 v111 fun v112 =>
pIdxS s90.2.2.2.2.2.2.2.1 v112 1 fun v113 =>
pLoad1 h91 v113 fun v114 =>
pInt .eql v114 (.int .i64 (.ofNat 0)) fun v115 =>
j96 (v115, v93, s90.2.2.1, s90.2.2.2.1, s90.2.2.2.2.1, s90.2.2.2.2.2.1, s90.2.2.2.2.2.2.1, s90.2.2.2.2.2.2.2.1, s90.2.2.2.2.2.2.2.2.1, ()) h91) (
j96 (.undef, v93, s90.2.2.1, s90.2.2.2.1, s90.2.2.2.2.1, s90.2.2.2.2.2.1, s90.2.2.2.2.2.2.1, s90.2.2.2.2.2.2.2.1, s90.2.2.2.2.2.2.2.2.1, ()) h91)) fun j92 =>
pWant v89 false (
pFieldA s86.2.2.1 0 fun v116 =>
pLoad1 h87 v116 fun v117 =>
pIdxS s86.2.2.2.2.2.1 v117 1 fun v118 =>
pLoad1 h87 v118 fun v119 =>
pFieldA s86.2.2.1 0 fun v120 =>
pLoad1 h87 v120 fun v121 =>
pIdxS s86.2.2.2.2.2.2.2.1 v121 1 fun v122 =>
pLoad1 h87 v122 fun v123 =>
pInt .eql v123 (.int .i64 (.ofNat 3)) fun v124 =>
pEq .bool true v119 v124 fun v125 =>
j92 (v125, v89, s86.2.2.1, s86.2.2.2.1, s86.2.2.2.2.1, s86.2.2.2.2.2.1, s86.2.2.2.2.2.2.1, s86.2.2.2.2.2.2.2.1, s86.2.2.2.2.2.2.2.2.1, ()) h87) (
j92 (.undef, v89, s86.2.2.1, s86.2.2.2.1, s86.2.2.2.2.1, s86.2.2.2.2.2.1, s86.2.2.2.2.2.2.1, s86.2.2.2.2.2.2.2.1, s86.2.2.2.2.2.2.2.2.1, ()) h87)) fun j88 =>
pWant v85 false (
pFieldA s82.2.2.1 2 fun v126 =>
pLoad1 h83 v126 fun v127 =>
pFieldA s82.2.2.1 0 fun v128 =>
pLoad1 h83 v128 fun v129 =>
pIdxS s82.2.2.2.2.2.2.2.1 v129 1 fun v130 =>
pLoad1 h83 v130 fun v131 =>
pInt .eql v131 (.int .i64 (.ofNat 1)) fun v132 =>
pEq .bool true v127 v132 fun v133 =>
j88 (v133, v85, s82.2.2.1, s82.2.2.2.1, s82.2.2.2.2.1, s82.2.2.2.2.2.1, s82.2.2.2.2.2.2.1, s82.2.2.2.2.2.2.2.1, s82.2.2.2.2.2.2.2.2.1, ()) h83) (
j88 (.undef, v85, s82.2.2.1, s82.2.2.2.1, s82.2.2.2.2.1, s82.2.2.2.2.2.1, s82.2.2.2.2.2.2.1, s82.2.2.2.2.2.2.2.1, s82.2.2.2.2.2.2.2.2.1, ()) h83)) fun j84 =>
pWant v81 false (
pFieldA v75 0 fun v134 =>
pLoad1 h77 v134 fun v135 =>
pInt .gtr v135 (.int .i64 (.ofNat 256)) fun v136 =>
j84 (v136, v81, v75, s67.1, s67.2.1, s67.2.2.2.1, s67.2.2.2.2.1, s67.2.2.2.2.2.1, s67.2.2.2.2.2.2.1, ()) h77) (
j84 (.undef, v81, v75, s67.1, s67.2.1, s67.2.2.2.1, s67.2.2.2.2.1, s67.2.2.2.2.2.1, s67.2.2.2.2.2.2.1, ()) h77)) (
loopC (σ := AV × AV × AV × AV × AV × Unit) NN (fun i140 s137 h138 d139 =>
pInt .leq s137.1 (.int .i64 (.ofNat 256)) fun v141 =>
pCond v141 (
joinC (α := AV × AV × AV × AV × AV × Unit → AH → List Nat → R) (fun s142 h143 d144 =>
pInt .add s142.1 (.int .i64 (.ofNat 1)) fun v146 =>
i140 (v146, s142.2.1, s142.2.2.1, s142.2.2.2.1, s142.2.2.2.2.1, ()) h143 d144) fun j145 =>
pIdxS s137.2.2.2.1 s137.1 1 fun v147 =>
pLoad1 h138 v147 fun v148 =>
pInt .neq v148 (.int .i64 (.ofNat 0)) fun v149 =>
pCond v149 (
pInt .sub s137.2.1 (.int .i64 (.ofNat 1)) fun v150 =>
j145 (s137.1, v150, s137.2.2.1, s137.2.2.2.1, s137.2.2.2.2.1, ()) h138 d139) (
j145 (s137.1, s137.2.1, s137.2.2.1, s137.2.2.2.1, s137.2.2.2.2.1, ()) h138 d139)) (
pInt .eql s137.2.1 (.int .i64 (.ofNat 0)) fun v151 =>
joinC (α := AV × AV × AV × AV × Unit → AH → R) (fun s152 h153 =>
pPick s152.2.1 s152.1 (.bool false) fun v155 =>
joinC (α := AV × AV × Unit → AH → R) (fun s156 h157 =>
pPick s156.2.1 s156.1 (.bool false) fun v159 =>
pLeave d139 h157 fun h160 =>
some (v159, h160)) fun j158 =>
pWant v155 true (
pIdxS s152.2.2.2.1 (.int .i64 (.ofNat 5)) 1 fun v161 =>
pLoad1 h153 v161 fun v162 =>
pConvI .u64 s152.2.2.1 fun v163 =>
pInt .eql v162 v163 fun v164 =>
j158 (v164, v155, ()) h153) (
j158 (.undef, v155, ()) h153)) fun j154 =>
pWant v151 true (
pLenS s137.2.2.2.2.1 fun v165 =>
pInt .gtr v165 (.int .i64 (.ofNat 5)) fun v166 =>
j154 (v166, v151, s137.2.2.1, s137.2.2.2.2.1, ()) h138) (
j154 (.undef, v151, s137.2.2.1, s137.2.2.2.2.1, ()) h138))) ((.int .i64 (.ofNat 0)), s67.2.1, s67.2.2.1, s67.2.2.2.2.2.1, s67.2.2.2.2.2.2.1, ()) h68 d69)) ((.int .i64 (.ofNat 0)), (.int .i64 (.ofNat 0)), (.int .i64 (.ofNat 14)), s19.2.1, s19.2.2.2.1, s19.2.2.2.2.1, s19.2.2.2.2.2.1, ()) h20 d21)) ((.int .i64 (.ofNat 0)), v17, s13.2.2.1, s13.2.2.2.1, s13.2.2.2.2.1, s13.2.2.2.2.2.1, ()) h18 [])) fun j15 =>
pWant v12 false (
pLenS s9.2.2.1 fun v167 =>
pInt .neq v167 (.int .i64 (.ofNat 4)) fun v168 =>
j15 (v168, v12, s9.2.2.1, s9.2.2.2.1, s9.2.2.2.2.1, s9.2.2.2.2.2.1, ()) h10) (
j15 (.undef, v12, s9.2.2.1, s9.2.2.2.1, s9.2.2.2.2.1, s9.2.2.2.2.2.1, ()) h10)) fun j11 =>
pWant v8 false (
pInt .neq v7 (.int .i64 (.ofNat 0)) fun v169 =>
j11 (v169, v8, v6, v2, a1, a0, ()) h5) (
j11 (.undef, v8, v6, v2, a1, a0, ()) h5)
theorem S38_eq (c : CV) (a0 a1 : AV) (h : AH) : enterK Try.prog NN P38 c 38 [a0, a1] h = S38 c a0 a1 h := by kernel_rfl
def W38 (c : CV) (l : List AV) (h : AH) : R := match l with | [a0, a1] => S38 c a0 a1 h | _ => none
theorem W38_ok : WOk Try.prog 38 W38 := by
  intro c l h r e
  unfold W38 at e
  split at e
  · exact ⟨P38, by rw [S38_eq]; exact e⟩
  · cases e
/- (*quietus/view.View).Size -/
def P39 : Pl := .z
def S39 (_ : CV) (a0 : AV) (h : AH) : R :=
pNil a0 fun v0 =>
pFieldA v0 0 fun v1 =>
pLoad1 h v1 fun v2 =>
pLenS v2 fun v3 =>
some (v3, h)
theorem S39_eq (c : CV) (a0 : AV) (h : AH) : enterK Try.prog NN P39 c 39 [a0] h = S39 c a0 h := by kernel_rfl
def W39 (c : CV) (l : List AV) (h : AH) : R := match l with | [a0] => S39 c a0 h | _ => none
theorem W39_ok : WOk Try.prog 39 W39 := by
  intro c l h r e
  unfold W39 at e
  split at e
  · exact ⟨P39, by rw [S39_eq]; exact e⟩
  · cases e
/- (*quietus/view.View).Read -/
def P40 : Pl := .z
def S40 (c : CV) (a0 a1 : AV) (h : AH) : R :=
pCall c (.fn 64 [] []) [a0, a1] h fun v0 h1 =>
pUn .not v0 fun v2 =>
pCond v2 (
some ((.tup [(.int .u64 (.ofNat 0)), (.int .i64 (.ofNat 2))]), h1)) (
pNil a0 fun v3 =>
pFieldA v3 2 fun v4 =>
pLoad1 h1 v4 fun v5 =>
pCall c (.fn 72 [] []) [v5, a1] h1 fun v6 h7 =>
pExtract v6 0 fun v8 =>
pExtract v6 1 fun v9 =>
pCond v9 (
some ((.tup [v8, (.int .i64 (.ofNat 0))]), h7)) (
pNil a0 fun v10 =>
pFieldA v10 0 fun v11 =>
pLoad1 h7 v11 fun v12 =>
pIdxS v12 a1 2 fun v13 =>
pLoadN h7 v13 2 fun v14 =>
pBox h7 105 (.agg [(.int .u64 (.ofNat 0)), (.bool false)]) fun v15 h16 =>
pStore h16 v15 v14 2 fun h17 =>
pFieldA v15 1 fun v18 =>
pLoad1 h17 v18 fun v19 =>
pCond v19 (
pFieldA v15 0 fun v20 =>
pLoad1 h17 v20 fun v21 =>
some ((.tup [v21, (.int .i64 (.ofNat 0))]), h17)) (
pNil a0 fun v22 =>
pFieldA v22 3 fun v23 =>
pStore h17 v23 a1 1 fun h24 =>
some ((.tup [(.int .u64 (.ofNat 0)), (.int .i64 (.ofNat 11))]), h24))))
theorem S40_eq (c : CV) (a0 a1 : AV) (h : AH) : enterK Try.prog NN P40 c 40 [a0, a1] h = S40 c a0 a1 h := by kernel_rfl
def W40 (c : CV) (l : List AV) (h : AH) : R := match l with | [a0, a1] => S40 c a0 a1 h | _ => none
theorem W40_ok : WOk Try.prog 40 W40 := by
  intro c l h r e
  unfold W40 at e
  split at e
  · exact ⟨P40, by rw [S40_eq]; exact e⟩
  · cases e
/- quietus/arena.head -/
def P41 : Pl := .z
def S41 (_ : CV) (a0 : AV) (h : AH) : R :=
pInt .add (.int .i64 (.ofNat 0)) a0 fun v0 =>
some (v0, h)
theorem S41_eq (c : CV) (a0 : AV) (h : AH) : enterK Try.prog NN P41 c 41 [a0] h = S41 c a0 h := by kernel_rfl
def W41 (c : CV) (l : List AV) (h : AH) : R := match l with | [a0] => S41 c a0 h | _ => none
theorem W41_ok : WOk Try.prog 41 W41 := by
  intro c l h r e
  unfold W41 at e
  split at e
  · exact ⟨P41, by rw [S41_eq]; exact e⟩
  · cases e
/- quietus/arena.again -/
def P42 : Pl := (.n none .z (.n none .z (.n none .z (.n none .z (.n (some [10, 8]) .z .z)))))
def S42 (c : CV) (a0 a1 a2 : AV) (h : AH) : R :=
pInt .geq a2 (.int .u64 (.ofNat 2147483648)) fun v0 =>
pCond v0 (
some ((.tup [(.int .i64 (.ofNat 0)), (.int .i64 (.ofNat 2))]), h)) (
pConvI .i64 a2 fun v1 =>
pCall c (.fn 40 [] []) [a0, v1] h fun v2 h3 =>
pExtract v2 0 fun v4 =>
pExtract v2 1 fun v5 =>
joinC (α := AV × AV × Unit → AH → List Nat → R) (fun s6 h7 d8 =>
pInt .neq s6.1 (.int .i64 (.ofNat 0)) fun v10 =>
pCond v10 (
pLeave d8 h7 fun h11 =>
some ((.tup [(.int .i64 (.ofNat 0)), s6.1]), h11)) (
pLeave d8 h7 fun h12 =>
some ((.tup [s6.2.1, (.int .i64 (.ofNat 0))]), h12))) fun j9 =>
pInt .eql v5 (.int .i64 (.ofNat 0)) fun v13 =>
pCond v13 (
pCall c (.fn 41 [] []) [a1] h3 fun v14 h15 =>
pBuild [(.int .i64 (.ofNat 0)), (.int .u64 (.ofNat 0))] [(0, 1, v14), (1, 1, v4)] fun v16 =>
pInt .sub v1 (.int .i64 (.ofNat 1)) fun v17 =>
pInt .add a1 (.int .i64 (.ofNat 8)) fun v18 =>
pConvI .u64 v18 fun v19 =>
pBuild [(.int .i64 (.ofNat 0)), (.int .u64 (.ofNat 0))] [(0, 1, v17), (1, 1, v19)] fun v20 =>
pBuildS h15 83 [(.int .i64 (.ofNat 0)), (.int .u64 (.ofNat 0))] 2 [(0, 2, v16), (2, 2, v20)] fun v21 h22 =>
pCall c (.fn 45 [] []) [a0, v21] h22 fun v23 h24 =>
j9 (v23, v1, ()) h24 []) (
j9 (v5, v1, ()) h3 []))
theorem S42_eq (c : CV) (a0 a1 a2 : AV) (h : AH) : enterK Try.prog NN P42 c 42 [a0, a1, a2] h = S42 c a0 a1 a2 h := by kernel_rfl
def W42 (c : CV) (l : List AV) (h : AH) : R := match l with | [a0, a1, a2] => S42 c a0 a1 a2 h | _ => none
theorem W42_ok : WOk Try.prog 42 W42 := by
  intro c l h r e
  unfold W42 at e
  split at e
  · exact ⟨P42, by rw [S42_eq]; exact e⟩
  · cases e
/- quietus/arena.grown -/
def P43 : Pl := (.n none .z (.n none .z (.n none .z (.n none (.n none (.r [[22, 20, 6, 1, 0], [33, 24, 6, 1, 0]]) .z) .z))))
def S43 (c : CV) (a0 a1 : AV) (h : AH) : R :=
pCall c (.fn 40 [] []) [a0, (.int .i64 (.ofNat 5))] h fun v0 h1 =>
pExtract v0 0 fun v2 =>
pExtract v0 1 fun v3 =>
pInt .neq v3 (.int .i64 (.ofNat 0)) fun v4 =>
pCond v4 (
some ((.tup [(.int .i64 (.ofNat 0)), v3]), h1)) (
pInt .lss v2 (.int .u64 (.ofNat 14)) fun v5 =>
joinC (α := AV × AV × AV × AV × AV × Unit → AH → R) (fun s6 h7 =>
pPick s6.2.1 (.bool true) s6.1 fun v9 =>
joinC (α := AV × AV × AV × AV × AV × Unit → AH → R) (fun s10 h11 =>
pPick s10.2.1 (.bool true) s10.1 fun v13 =>
pCond v13 (
some ((.tup [(.int .i64 (.ofNat 0)), (.int .i64 (.ofNat 4))]), h11)) (
pConvI .i64 s10.2.2.1 fun v14 =>
pInt .add v14 (.int .i64 (.ofNat 1)) fun v15 =>
pCall c (.fn 17 [] []) [s10.2.2.2.1] h11 fun v16 h17 =>
pInt .add v15 v16 fun v18 =>
pConvI .u64 v18 fun v19 =>
pBuild [(.int .i64 (.ofNat 0)), (.int .u64 (.ofNat 0))] [(0, 1, (.int .i64 (.ofNat 5))), (1, 1, v19)] fun v20 =>
pInt .add s10.2.2.2.1 (.int .i64 (.ofNat 8)) fun v21 =>
pConvI .u64 v21 fun v22 =>
pBuild [(.int .i64 (.ofNat 0)), (.int .u64 (.ofNat 0))] [(0, 1, v14), (1, 1, v22)] fun v23 =>
pBuildS h17 83 [(.int .i64 (.ofNat 0)), (.int .u64 (.ofNat 0))] 2 [(0, 2, v20), (2, 2, v23)] fun v24 h25 =>
pCall c (.fn 45 [] []) [s10.2.2.2.2.1, v24] h25 fun v26 h27 =>
pInt .neq v26 (.int .i64 (.ofNat 0)) fun v28 =>
pCond v28 (
some ((.tup [(.int .i64 (.ofNat 0)), v26]), h27)) (
pInt .add v14 (.int .i64 (.ofNat 1)) fun v29 =>
some ((.tup [v29, (.int .i64 (.ofNat 0))]), h27)))) fun j12 =>
pWant v9 false (
pConvI .i64 s6.2.2.1 fun v30 =>
pInt .add v30 (.int .i64 (.ofNat 1)) fun v31 =>
pCall c (.fn 17 [] []) [s6.2.2.2.1] h7 fun v32 h33 =>
pInt .add v31 v32 fun v34 =>
pCall c (.fn 39 [] []) [s6.2.2.2.2.1] h33 fun v35 h36 =>
pInt .gtr v34 v35 fun v37 =>
j12 (v37, v9, s6.2.2.1, s6.2.2.2.1, s6.2.2.2.2.1, ()) h36) (
j12 (.undef, v9, s6.2.2.1, s6.2.2.2.1, s6.2.2.2.2.1, ()) h7)) fun j8 =>
pWant v5 false (
pInt .geq v2 (.int .u64 (.ofNat 2147483648)) fun v38 =>
j8 (v38, v5, v2, a1, a0, ()) h1) (
j8 (.undef, v5, v2, a1, a0, ()) h1))
theorem S43_eq (c : CV) (a0 a1 : AV) (h : AH) : enterK Try.prog NN P43 c 43 [a0, a1] h = S43 c a0 a1 h := by kernel_rfl
def W43 (c : CV) (l : List AV) (h : AH) : R := match l with | [a0, a1] => S43 c a0 a1 h | _ => none
theorem W43_ok : WOk Try.prog 43 W43 := by
  intro c l h r e
  unfold W43 at e
  split at e
  · exact ⟨P43, by rw [S43_eq]; exact e⟩
  · cases e
/- quietus/arena.asked -/
def P44 : Pl := (.n none .z (.n none (.n none (.r [[17, 13, 1, 0]]) .z) .z))
def S44 (c : CV) (a0 a1 : AV) (h : AH) : R :=
pInt .leq a1 (.int .i64 (.ofNat 14)) fun v0 =>
joinC (α := AV × AV × AV × AV × Unit → AH → R) (fun s1 h2 =>
pPick s1.2.1 (.bool true) s1.1 fun v4 =>
pCond v4 (
some ((.tup [(.int .i64 (.ofNat 0)), (.bool false), (.int .i64 (.ofNat 2))]), h2)) (
pInt .sub s1.2.2.1 (.int .i64 (.ofNat 1)) fun v5 =>
pCall c (.fn 40 [] []) [s1.2.2.2.1, v5] h2 fun v6 h7 =>
pExtract v6 0 fun v8 =>
pExtract v6 1 fun v9 =>
pInt .neq v9 (.int .i64 (.ofNat 0)) fun v10 =>
pCond v10 (
some ((.tup [(.int .i64 (.ofNat 0)), (.bool false), v9]), h7)) (
pCall c (.fn 66 [] []) [v8] h7 fun v11 h12 =>
pExtract v11 0 fun v13 =>
pExtract v11 1 fun v14 =>
pInt .eql v13 (.int .i64 (.ofNat 0)) fun v15 =>
pCond v15 (
some ((.tup [(.int .i64 (.ofNat 0)), (.bool false), (.int .i64 (.ofNat 2))]), h12)) (
some ((.tup [v13, v14, (.int .i64 (.ofNat 0))]), h12))))) fun j3 =>
pWant v0 false (
pCall c (.fn 39 [] []) [a0] h fun v16 h17 =>
pInt .geq a1 v16 fun v18 =>
j3 (v18, v0, a1, a0, ()) h17) (
j3 (.undef, v0, a1, a0, ()) h)
theorem S44_eq (c : CV) (a0 a1 : AV) (h : AH) : enterK Try.prog NN P44 c 44 [a0, a1] h = S44 c a0 a1 h := by kernel_rfl
def W44 (c : CV) (l : List AV) (h : AH) : R := match l with | [a0, a1] => S44 c a0 a1 h | _ => none
theorem W44_ok : WOk Try.prog 44 W44 := by
  intro c l h r e
  unfold W44 at e
  split at e
  · exact ⟨P44, by rw [S44_eq]; exact e⟩
  · cases e
/- (*quietus/view.View).Take -/
def P45 : Pl := (.n none .z (.n none (.n none .z (.n none (.n (some [9, 8, 7, 1, 0]) .z .z) .z)) .z))
def S45 (c : CV) (a0 a1 : AV) (h : AH) : R :=
pLenS a1 fun v0 =>
loopC (σ := AV × AV × AV × AV × AV × Unit) NN (fun i4 s1 h2 d3 =>
pInt .lss s1.1 s1.2.1 fun v5 =>
pCond v5 (
pIdxS s1.2.2.1 s1.1 2 fun v6 =>
pLoadN h2 v6 2 fun v7 =>
pBox h2 83 (.agg [(.int .i64 (.ofNat 0)), (.int .u64 (.ofNat 0))]) fun v8 h9 =>
pStore h9 v8 v7 2 fun h10 =>
pFieldA v8 0 fun v11 =>
pLoad1 h10 v11 fun v12 =>
pCall c (.fn 64 [] []) [s1.2.2.2.2.1, v12] h10 fun v13 h14 =>
pUn .not v13 fun v15 =>
pCond v15 (
pLeave d3 h14 fun h16 =>
some ((.int .i64 (.ofNat 2)), h16)) (
pInt .add s1.1 (.int .i64 (.ofNat 1)) fun v17 =>
i4 (v17, s1.2.1, s1.2.2.1, s1.2.2.2.1, s1.2.2.2.2.1, ()) h14 d3)) (
pNil s1.2.2.2.2.1 fun v18 =>
pFieldA v18 2 fun v19 =>
pLoad1 h2 v19 fun v20 =>
pCall c (.fn 73 [] []) [v20, s1.2.2.2.1] h2 fun v21 h22 =>
pLeave d3 h22 fun h23 =>
some (v21, h23))) ((.int .i64 (.ofNat 0)), v0, a1, a1, a0, ()) h []
theorem S45_eq (c : CV) (a0 a1 : AV) (h : AH) : enterK Try.prog NN P45 c 45 [a0, a1] h = S45 c a0 a1 h := by kernel_rfl
def W45 (c : CV) (l : List AV) (h : AH) : R := match l with | [a0, a1] => S45 c a0 a1 h | _ => none
theorem W45_ok : WOk Try.prog 45 W45 := by
  intro c l h r e
  unfold W45 at e
  split at e
  · exact ⟨P45, by rw [S45_eq]; exact e⟩
  · cases e
/- (*quietus/view.View).Free -/
def P46 : Pl := .z
def S46 (c : CV) (a0 a1 : AV) (h : AH) : R :=
pNil a0 fun v0 =>
pFieldA v0 2 fun v1 =>
pLoad1 h v1 fun v2 =>
pCall c (.fn 74 [] []) [v2, a1] h fun _ h4 =>
some ((.tup []), h4)
theorem S46_eq (c : CV) (a0 a1 : AV) (h : AH) : enterK Try.prog NN P46 c 46 [a0, a1] h = S46 c a0 a1 h := by kernel_rfl
def W46 (c : CV) (l : List AV) (h : AH) : R := match l with | [a0, a1] => S46 c a0 a1 h | _ => none
theorem W46_ok : WOk Try.prog 46 W46 := by
  intro c l h r e
  unfold W46 at e
  split at e
  · exact ⟨P46, by rw [S46_eq]; exact e⟩
  · cases e
/- (*quietus/levels.Levels).Frees -/
def P47 : Pl := (.n none .z (.n none .z (.n none (.n none .z (.n none (.n (some [11, 10, 9, 3]) .z .z) .z)) .z)))
def S47 (_ : CV) (a0 : AV) (h : AH) : R :=
pNil a0 fun v0 =>
pFieldA v0 1 fun v1 =>
pLoad1 h v1 fun v2 =>
pLenS v2 fun v3 =>
loopC (σ := AV × AV × AV × AV × Unit) NN (fun i7 s4 h5 d6 =>
pInt .lss s4.1 s4.2.1 fun v8 =>
pCond v8 (
pIdxS s4.2.2.1 s4.1 1 fun v9 =>
pLoad1 h5 v9 fun v10 =>
pNil v10 fun v11 =>
pFieldA v11 1 fun v12 =>
pLoad1 h5 v12 fun v13 =>
pAppend h5 3 1 s4.2.2.2.1 v13 fun v14 h15 =>
pInt .add s4.1 (.int .i64 (.ofNat 1)) fun v16 =>
i7 (v16, s4.2.1, s4.2.2.1, v14, ()) h15 d6) (
pLeave d6 h5 fun h17 =>
some (s4.2.2.2.1, h17))) ((.int .i64 (.ofNat 0)), v3, v2, .nils, ()) h []
theorem S47_eq (c : CV) (a0 : AV) (h : AH) : enterK Try.prog NN P47 c 47 [a0] h = S47 c a0 h := by kernel_rfl
def W47 (c : CV) (l : List AV) (h : AH) : R := match l with | [a0] => S47 c a0 h | _ => none
theorem W47_ok : WOk Try.prog 47 W47 := by
  intro c l h r e
  unfold W47 at e
  split at e
  · exact ⟨P47, by rw [S47_eq]; exact e⟩
  · cases e
/- (*quietus/levels.Levels).Cells -/
def P48 : Pl := (.n none .z (.n none .z (.n none (.n none .z (.n none (.n (some [3]) .z .z) .z)) .z)))
def S48 (c : CV) (a0 : AV) (h : AH) : R :=
pBox h 37 .nils fun v0 h1 =>
pNil a0 fun v2 =>
pFieldA v2 1 fun v3 =>
pLoad1 h1 v3 fun v4 =>
pCall c (.fn 75 [] []) [v4] h1 fun v5 h6 =>
pCallF c v5 [.yield (h6.new .dfd).nx] ((h6.new .dfd).new (.loop .ready none 48 [1, 1, 0, 1, 0] [3] [v0] h6.nx)) fun _ h7 =>
pEndLoop h7 (h6.new .dfd).nx fun p9 h8 =>
pNone p9 (
pLoad1 h8 v0 fun v10 =>
pLeave (h6.nx :: []) h8 fun h11 =>
some (v10, h11)) <|
none
theorem S48_eq (c : CV) (a0 : AV) (h : AH) : enterK Try.prog NN P48 c 48 [a0] h = S48 c a0 h := by kernel_rfl
def W48 (c : CV) (l : List AV) (h : AH) : R := match l with | [a0] => S48 c a0 h | _ => none
theorem W48_ok : WOk Try.prog 48 W48 := by
  intro c l h r e
  unfold W48 at e
  split at e
  · exact ⟨P48, by rw [S48_eq]; exact e⟩
  · cases e
/- (*quietus/quietusref7.View).In -/
def P49 : Pl := (.n none .z (.n none (.r [[13, 7]]) .z))
def S49 (_ : CV) (a0 a1 : AV) (h : AH) : R :=
pInt .geq a1 (.int .i64 (.ofNat 1)) fun v0 =>
joinC (α := AV × AV × Unit → AH → R) (fun s1 h2 =>
pPick s1.2.1 s1.1 (.bool false) fun v4 =>
some (v4, h2)) fun j3 =>
pWant v0 true (
pNil a0 fun v5 =>
pFieldA v5 0 fun v6 =>
pLoad1 h v6 fun v7 =>
pInt .lss a1 v7 fun v8 =>
j3 (v8, v0, ()) h) (
j3 (.undef, v0, ()) h)
theorem S49_eq (c : CV) (a0 a1 : AV) (h : AH) : enterK Try.prog NN P49 c 49 [a0, a1] h = S49 c a0 a1 h := by kernel_rfl
def W49 (c : CV) (l : List AV) (h : AH) : R := match l with | [a0, a1] => S49 c a0 a1 h | _ => none
theorem W49_ok : WOk Try.prog 49 W49 := by
  intro c l h r e
  unfold W49 at e
  split at e
  · exact ⟨P49, by rw [S49_eq]; exact e⟩
  · cases e
/- quietus/quietusref7.Free -/
def P50 : Pl := .z
def S50 (c : CV) (a0 a1 : AV) (h : AH) : R :=
pCall c (.fn 79 [] []) [a0, a1, (.int .i64 (.ofNat 8))] h fun v0 h1 =>
pExtract v0 0 fun v2 =>
pExtract v0 1 fun v3 =>
pInt .neq v3 (.int .i64 (.ofNat 0)) fun v4 =>
pCond v4 (
some (v3, h1)) (
pInt .sub a1 (.int .i64 (.ofNat 1)) fun v5 =>
pConvI .u64 v2 fun v6 =>
pBuild [(.int .i64 (.ofNat 0)), (.int .u64 (.ofNat 0))] [(0, 1, v5), (1, 1, v6)] fun v7 =>
pBuildS h1 83 [(.int .i64 (.ofNat 0)), (.int .u64 (.ofNat 0))] 1 [(0, 2, v7)] fun v8 h9 =>
pCall c (.fn 80 [] []) [a0, v8] h9 fun v10 h11 =>
pInt .neq v10 (.int .i64 (.ofNat 0)) fun v12 =>
pCond v12 (
some (v10, h11)) (
pNil a0 fun v13 =>
pFieldA v13 2 fun v14 =>
pLoad1 h11 v14 fun v15 =>
pCall c (.fn 81 [] []) [v15, a1] h11 fun _ h17 =>
some ((.int .i64 (.ofNat 0)), h17)))
theorem S50_eq (c : CV) (a0 a1 : AV) (h : AH) : enterK Try.prog NN P50 c 50 [a0, a1] h = S50 c a0 a1 h := by kernel_rfl
def W50 (c : CV) (l : List AV) (h : AH) : R := match l with | [a0, a1] => S50 c a0 a1 h | _ => none
theorem W50_ok : WOk Try.prog 50 W50 := by
  intro c l h r e
  unfold W50 at e
  split at e
  · exact ⟨P50, by rw [S50_eq]; exact e⟩
  · cases e
/- quietus/quietusref7.Give -/
def P51 : Pl := .z
def S51 (c : CV) (a0 a1 : AV) (h : AH) : R :=
pCall c (.fn 79 [] []) [a0, a1, (.int .i64 (.ofNat 0))] h fun v0 h1 =>
pExtract v0 0 fun v2 =>
pExtract v0 1 fun v3 =>
pInt .neq v3 (.int .i64 (.ofNat 0)) fun v4 =>
pCond v4 (
some (v3, h1)) (
pInt .add (.int .i64 (.ofNat 1)) v2 fun v5 =>
pInt .sub v5 (.int .i64 (.ofNat 1)) fun v6 =>
pCall c (.fn 82 [] []) [a0, v6] h1 fun v7 h8 =>
pExtract v7 0 fun v9 =>
pExtract v7 1 fun v10 =>
pInt .neq v10 (.int .i64 (.ofNat 0)) fun v11 =>
pCond v11 (
some (v10, h8)) (
pBuild [(.int .i64 (.ofNat 0)), (.int .u64 (.ofNat 0))] [(0, 1, a1), (1, 1, v9)] fun v12 =>
pConvI .u64 a1 fun v13 =>
pBuild [(.int .i64 (.ofNat 0)), (.int .u64 (.ofNat 0))] [(0, 1, v6), (1, 1, v13)] fun v14 =>
pBuildS h8 83 [(.int .i64 (.ofNat 0)), (.int .u64 (.ofNat 0))] 2 [(0, 2, v12), (2, 2, v14)] fun v15 h16 =>
pCall c (.fn 80 [] []) [a0, v15] h16 fun v17 h18 =>
some (v17, h18)))
theorem S51_eq (c : CV) (a0 a1 : AV) (h : AH) : enterK Try.prog NN P51 c 51 [a0, a1] h = S51 c a0 a1 h := by kernel_rfl
def W51 (c : CV) (l : List AV) (h : AH) : R := match l with | [a0, a1] => S51 c a0 a1 h | _ => none
theorem W51_ok : WOk Try.prog 51 W51 := by
  intro c l h r e
  unfold W51 at e
  split at e
  · exact ⟨P51, by rw [S51_eq]; exact e⟩
  · cases e
/- (*quietus/view.View).Open -/
def P52 : Pl := .z
def S52 (c : CV) (a0 : AV) (h : AH) : R :=
pNil a0 fun v0 =>
pFieldA v0 2 fun v1 =>
pLoad1 h v1 fun v2 =>
pCall c (.fn 83 [] []) [v2] h fun v3 h4 =>
some (v3, h4)
theorem S52_eq (c : CV) (a0 : AV) (h : AH) : enterK Try.prog NN P52 c 52 [a0] h = S52 c a0 h := by kernel_rfl
def W52 (c : CV) (l : List AV) (h : AH) : R := match l with | [a0] => S52 c a0 h | _ => none
theorem W52_ok : WOk Try.prog 52 W52 := by
  intro c l h r e
  unfold W52 at e
  split at e
  · exact ⟨P52, by rw [S52_eq]; exact e⟩
  · cases e
/- (*quietus/quietusref7.Levels).Open -/
def P53 : Pl := .z
def S53 (_ : CV) (a0 : AV) (h : AH) : R :=
pNil a0 fun v0 =>
pFieldA v0 1 fun v1 =>
pLoad1 h v1 fun v2 =>
pLenS v2 fun v3 =>
pInt .geq v3 (.int .i64 (.ofNat 6)) fun v4 =>
pCond v4 (
some ((.int .i64 (.ofNat 9)), h)) (
pNil a0 fun v5 =>
pFieldA v5 1 fun v6 =>
pLoad1 h v6 fun v7 =>
pBuild [.nils, .nils] [] fun v8 =>
pBuildS h 96 [.nils, .nils] 1 [(0, 2, v8)] fun v9 h10 =>
pAppend h10 96 2 v7 v9 fun v11 h12 =>
pNil a0 fun v13 =>
pFieldA v13 1 fun v14 =>
pStore h12 v14 v11 1 fun h15 =>
some ((.int .i64 (.ofNat 0)), h15))
theorem S53_eq (c : CV) (a0 : AV) (h : AH) : enterK Try.prog NN P53 c 53 [a0] h = S53 c a0 h := by kernel_rfl
def W53 (c : CV) (l : List AV) (h : AH) : R := match l with | [a0] => S53 c a0 h | _ => none
theorem W53_ok : WOk Try.prog 53 W53 := by
  intro c l h r e
  unfold W53 at e
  split at e
  · exact ⟨P53, by rw [S53_eq]; exact e⟩
  · cases e
/- (*quietus/view.View).Keep -/
def P54 : Pl := .z
def S54 (c : CV) (a0 : AV) (h : AH) : R :=
pNil a0 fun v0 =>
pFieldA v0 2 fun v1 =>
pLoad1 h v1 fun v2 =>
pCall c (.fn 84 [] []) [v2] h fun v3 h4 =>
some (v3, h4)
theorem S54_eq (c : CV) (a0 : AV) (h : AH) : enterK Try.prog NN P54 c 54 [a0] h = S54 c a0 h := by kernel_rfl
def W54 (c : CV) (l : List AV) (h : AH) : R := match l with | [a0] => S54 c a0 h | _ => none
theorem W54_ok : WOk Try.prog 54 W54 := by
  intro c l h r e
  unfold W54 at e
  split at e
  · exact ⟨P54, by rw [S54_eq]; exact e⟩
  · cases e
/- (*quietus/quietusref7.Levels).Keep -/
def P55 : Pl := (.n none .z (.n none .z (.n none .z (.n none .z (.n none .z (.n none (.n none .z (.n none (.n (some [6, 5, 4, 3, 0]) .z .z) .z)) (.n none (.r [[5, 3, 0]]) .z)))))))
def S55 (c : CV) (a0 : AV) (h : AH) : R :=
pNil a0 fun v0 =>
pFieldA v0 1 fun v1 =>
pLoad1 h v1 fun v2 =>
pLenS v2 fun v3 =>
pInt .eql v3 (.int .i64 (.ofNat 1)) fun v4 =>
pCond v4 (
some ((.int .i64 (.ofNat 10)), h)) (
pNil a0 fun v5 =>
pFieldA v5 1 fun v6 =>
pLoad1 h v6 fun v7 =>
pInt .sub v3 (.int .i64 (.ofNat 1)) fun v8 =>
pIdxS v7 v8 2 fun v9 =>
pLoadN h v9 2 fun v10 =>
pBox h 96 (.agg [.nils, .nils]) fun v11 h12 =>
pStore h12 v11 v10 2 fun h13 =>
pNil a0 fun v14 =>
pFieldA v14 1 fun v15 =>
pLoad1 h13 v15 fun v16 =>
pInt .sub v3 (.int .i64 (.ofNat 2)) fun v17 =>
pIdxS v16 v17 2 fun v18 =>
pLoadN h13 v18 2 fun v19 =>
pBox h13 96 (.agg [.nils, .nils]) fun v20 h21 =>
pStore h21 v20 v19 2 fun h22 =>
loopC (σ := AV × AV × AV × AV × AV × Unit) NN (fun i26 s23 h24 d25 =>
pFieldA s23.2.2.1 0 fun v27 =>
pLoad1 h24 v27 fun v28 =>
pLenS v28 fun v29 =>
pInt .lss s23.1 v29 fun v30 =>
pCond v30 (
pFieldA s23.2.1 0 fun v31 =>
pLoad1 h24 v31 fun v32 =>
pFieldA s23.2.2.1 0 fun v33 =>
pLoad1 h24 v33 fun v34 =>
pIdxS v34 s23.1 2 fun v35 =>
pFieldA v35 0 fun v36 =>
pLoad1 h24 v36 fun v37 =>
pFieldA s23.2.2.1 0 fun v38 =>
pLoad1 h24 v38 fun v39 =>
pIdxS v39 s23.1 2 fun v40 =>
pFieldA v40 1 fun v41 =>
pLoad1 h24 v41 fun v42 =>
pCall c (.fn 85 [] []) [v32, v37, v42] h24 fun v43 h44 =>
pFieldA s23.2.1 0 fun v45 =>
pStore h44 v45 v43 1 fun h46 =>
pInt .add s23.1 (.int .i64 (.ofNat 1)) fun v47 =>
i26 (v47, s23.2.1, s23.2.2.1, s23.2.2.2.1, s23.2.2.2.2.1, ()) h46 d25) (
joinC (α := AV × AV × AV × Unit → AH → R) (fun s48 h49 =>
pNil s48.2.2.1 fun v51 =>
pFieldA v51 1 fun v52 =>
pLoad1 h49 v52 fun v53 =>
pInt .sub s48.2.1 (.int .i64 (.ofNat 1)) fun v54 =>
pSlice h49 96 2 v53 none (some v54) fun v55 =>
pNil s48.2.2.1 fun v56 =>
pFieldA v56 1 fun v57 =>
pStore h49 v57 v55 1 fun h58 =>
pNil s48.2.2.1 fun v59 =>
pFieldA v59 1 fun v60 =>
pLoad1 h58 v60 fun v61 =>
pInt .sub s48.2.1 (.int .i64 (.ofNat 2)) fun v62 =>
pLoadN h58 s48.1 2 fun v63 =>
pIdxS v61 v62 2 fun v64 =>
pStore h58 v64 v63 2 fun h65 =>
pLeave d25 h65 fun h66 =>
some ((.int .i64 (.ofNat 0)), h66)) fun j50 =>
pFieldA s23.2.1 1 fun v67 =>
pLoad1 h24 v67 fun v68 =>
pAppend h24 3 1 .nils v68 fun v69 h70 =>
pFieldA s23.2.2.1 1 fun v71 =>
pLoad1 h70 v71 fun v72 =>
pAppend h70 3 1 v69 v72 fun v73 h74 =>
pFieldA s23.2.1 1 fun v75 =>
pStore h74 v75 v73 1 fun h76 =>
pChk v71 none v72 h24 h70 h24.nx <|
j50 (s23.2.1, s23.2.2.2.1, s23.2.2.2.2.1, ()) h76)) ((.int .i64 (.ofNat 0)), v20, v11, v3, a0, ()) h22 [])
theorem S55_eq (c : CV) (a0 : AV) (h : AH) : enterK Try.prog NN P55 c 55 [a0] h = S55 c a0 h := by kernel_rfl
def W55 (c : CV) (l : List AV) (h : AH) : R := match l with | [a0] => S55 c a0 h | _ => none
theorem W55_ok : WOk Try.prog 55 W55 := by
  intro c l h r e
  unfold W55 at e
  split at e
  · exact ⟨P55, by rw [S55_eq]; exact e⟩
  · cases e
/- (*quietus/view.View).Drop -/
def P56 : Pl := .z
def S56 (c : CV) (a0 : AV) (h : AH) : R :=
pNil a0 fun v0 =>
pFieldA v0 2 fun v1 =>
pLoad1 h v1 fun v2 =>
pCall c (.fn 86 [] []) [v2] h fun v3 h4 =>
some (v3, h4)
theorem S56_eq (c : CV) (a0 : AV) (h : AH) : enterK Try.prog NN P56 c 56 [a0] h = S56 c a0 h := by kernel_rfl
def W56 (c : CV) (l : List AV) (h : AH) : R := match l with | [a0] => S56 c a0 h | _ => none
theorem W56_ok : WOk Try.prog 56 W56 := by
  intro c l h r e
  unfold W56 at e
  split at e
  · exact ⟨P56, by rw [S56_eq]; exact e⟩
  · cases e
/- (*quietus/quietusref7.Levels).Drop -/
def P57 : Pl := .z
def S57 (_ : CV) (a0 : AV) (h : AH) : R :=
pNil a0 fun v0 =>
pFieldA v0 1 fun v1 =>
pLoad1 h v1 fun v2 =>
pLenS v2 fun v3 =>
pInt .eql v3 (.int .i64 (.ofNat 1)) fun v4 =>
pCond v4 (
some ((.int .i64 (.ofNat 10)), h)) (
pNil a0 fun v5 =>
pFieldA v5 1 fun v6 =>
pLoad1 h v6 fun v7 =>
pNil a0 fun v8 =>
pFieldA v8 1 fun v9 =>
pLoad1 h v9 fun v10 =>
pLenS v10 fun v11 =>
pInt .sub v11 (.int .i64 (.ofNat 1)) fun v12 =>
pSlice h 96 2 v7 none (some v12) fun v13 =>
pNil a0 fun v14 =>
pFieldA v14 1 fun v15 =>
pStore h v15 v13 1 fun h16 =>
some ((.int .i64 (.ofNat 0)), h16))
theorem S57_eq (c : CV) (a0 : AV) (h : AH) : enterK Try.prog NN P57 c 57 [a0] h = S57 c a0 h := by kernel_rfl
def W57 (c : CV) (l : List AV) (h : AH) : R := match l with | [a0] => S57 c a0 h | _ => none
theorem W57_ok : WOk Try.prog 57 W57 := by
  intro c l h r e
  unfold W57 at e
  split at e
  · exact ⟨P57, by rw [S57_eq]; exact e⟩
  · cases e
/- quietus/quietusref7.Alloc -/
def P58 : Pl := (.n none .z (.n none .z (.n none .z (.n none .z (.n none .z (.n none .z (.n none .z (.n none .z (.n none .z (.n none .z (.n none .z (.n none (.n none (.r [[85, 15, 10, 6, 0]]) .z) .z))))))))))))
def S58 (c : CV) (a0 a1 : AV) (h : AH) : R :=
pCall c (.fn 87 [] []) [a1] h fun v0 h1 =>
pInt .eql v0 (.int .i64 (.ofNat 0)) fun v2 =>
pCond v2 (
some ((.tup [(.int .i64 (.ofNat 0)), (.int .i64 (.ofNat 3))]), h1)) (
pInt .add (.int .i64 (.ofNat 1)) v0 fun v3 =>
pInt .sub v3 (.int .i64 (.ofNat 1)) fun v4 =>
pCall c (.fn 82 [] []) [a0, v4] h1 fun v5 h6 =>
pExtract v5 0 fun v7 =>
pExtract v5 1 fun v8 =>
pInt .neq v8 (.int .i64 (.ofNat 0)) fun v9 =>
pCond v9 (
some ((.tup [(.int .i64 (.ofNat 0)), v8]), h6)) (
pInt .add v0 (.int .i64 (.ofNat 8)) fun v10 =>
pConvI .u64 v10 fun v11 =>
pInt .neq v7 (.int .u64 (.ofNat 0)) fun v12 =>
pCond v12 (
pCall c (.fn 67 [] []) [v7] h6 fun v13 h14 =>
pCall c (.fn 82 [] []) [a0, v13] h14 fun v15 h16 =>
pExtract v15 0 fun v17 =>
pExtract v15 1 fun v18 =>
pInt .neq v18 (.int .i64 (.ofNat 0)) fun v19 =>
pCond v19 (
some ((.tup [(.int .i64 (.ofNat 0)), v18]), h16)) (
pBuild [(.int .i64 (.ofNat 0)), (.int .u64 (.ofNat 0))] [(0, 1, v4), (1, 1, v17)] fun v20 =>
pInt .sub v13 (.int .i64 (.ofNat 1)) fun v21 =>
pBuild [(.int .i64 (.ofNat 0)), (.int .u64 (.ofNat 0))] [(0, 1, v21), (1, 1, v11)] fun v22 =>
pBuildS h16 83 [(.int .i64 (.ofNat 0)), (.int .u64 (.ofNat 0))] 2 [(0, 2, v20), (2, 2, v22)] fun v23 h24 =>
pCall c (.fn 80 [] []) [a0, v23] h24 fun v25 h26 =>
pInt .neq v25 (.int .i64 (.ofNat 0)) fun v27 =>
pCond v27 (
some ((.tup [(.int .i64 (.ofNat 0)), v25]), h26)) (
some ((.tup [v13, (.int .i64 (.ofNat 0))]), h26)))) (
pCall c (.fn 82 [] []) [a0, (.int .i64 (.ofNat 5))] h6 fun v28 h29 =>
pExtract v28 0 fun v30 =>
pExtract v28 1 fun v31 =>
pInt .neq v31 (.int .i64 (.ofNat 0)) fun v32 =>
pCond v32 (
some ((.tup [(.int .i64 (.ofNat 0)), v31]), h29)) (
pCall c (.fn 67 [] []) [v30] h29 fun v33 h34 =>
joinC (α := AV × AV × AV × AV × AV × Unit → AH → R) (fun s35 h36 =>
pCond s35.1 (
some ((.tup [(.int .i64 (.ofNat 0)), (.int .i64 (.ofNat 4))]), h36)) (
pInt .add s35.2.1 (.int .i64 (.ofNat 1)) fun v38 =>
pCall c (.fn 68 [] []) [s35.2.2.2.1] h36 fun v39 h40 =>
pInt .add v38 v39 fun v41 =>
pConvI .u64 v41 fun v42 =>
pBuild [(.int .i64 (.ofNat 0)), (.int .u64 (.ofNat 0))] [(0, 1, (.int .i64 (.ofNat 5))), (1, 1, v42)] fun v43 =>
pBuild [(.int .i64 (.ofNat 0)), (.int .u64 (.ofNat 0))] [(0, 1, s35.2.1), (1, 1, s35.2.2.1)] fun v44 =>
pBuildS h40 83 [(.int .i64 (.ofNat 0)), (.int .u64 (.ofNat 0))] 2 [(0, 2, v43), (2, 2, v44)] fun v45 h46 =>
pCall c (.fn 80 [] []) [s35.2.2.2.2.1, v45] h46 fun v47 h48 =>
pInt .neq v47 (.int .i64 (.ofNat 0)) fun v49 =>
pCond v49 (
some ((.tup [(.int .i64 (.ofNat 0)), v47]), h48)) (
pInt .add s35.2.1 (.int .i64 (.ofNat 1)) fun v50 =>
some ((.tup [v50, (.int .i64 (.ofNat 0))]), h48)))) fun j37 =>
pInt .lss v33 (.int .i64 (.ofNat 14)) fun v51 =>
pWant v51 false (
pInt .add v33 (.int .i64 (.ofNat 1)) fun v52 =>
pCall c (.fn 68 [] []) [v0] h34 fun v53 h54 =>
pInt .add v52 v53 fun v55 =>
pNil a0 fun v56 =>
pFieldA v56 0 fun v57 =>
pLoad1 h54 v57 fun v58 =>
pInt .gtr v55 v58 fun v59 =>
pPick v51 (.bool true) v59 fun v60 =>
pChk v57 none v58 h34 h54 h34.nx <|
j37 (v60, v33, v11, v0, a0, ()) h54) (
pPick v51 (.bool true) .undef fun v61 =>
j37 (v61, v33, v11, v0, a0, ()) h34)))))
theorem S58_eq (c : CV) (a0 a1 : AV) (h : AH) : enterK Try.prog NN P58 c 58 [a0, a1] h = S58 c a0 a1 h := by kernel_rfl
def W58 (c : CV) (l : List AV) (h : AH) : R := match l with | [a0, a1] => S58 c a0 a1 h | _ => none
theorem W58_ok : WOk Try.prog 58 W58 := by
  intro c l h r e
  unfold W58 at e
  split at e
  · exact ⟨P58, by rw [S58_eq]; exact e⟩
  · cases e
/- (*quietus/quietusref7.Levels).Whole -/
def P59 : Pl := (.n none .z (.n none .z (.n none (.n none (.n (some [3, 2, 0]) .z .z) .z) (.n none .z (.n none (.n none .z (.n none (.n (some [5, 4, 2, 0]) .z .z) .z)) .z)))))
def S59 (c : CV) (a0 : AV) (h : AH) : R :=
pBox h 96 (.agg [.nils, .nils]) fun v0 h1 =>
pCall c (.fn 88 [] []) [a0] h1 fun v2 h3 =>
loopC (σ := AV × AV × AV × Unit) NN (fun i7 s4 h5 d6 =>
pNil s4.1 fun v8 =>
pFieldA v8 1 fun v9 =>
pLoad1 h5 v9 fun v10 =>
pLenS v10 fun v11 =>
pInt .gtr v11 (.int .i64 (.ofNat 1)) fun v12 =>
pCond v12 (
pCall c (.fn 55 [] []) [s4.1] h5 fun _ h14 =>
i7 (s4.1, s4.2.1, s4.2.2.1, ()) h14 d6) (
pNil s4.1 fun v15 =>
pFieldA v15 1 fun v16 =>
pLoad1 h5 v16 fun v17 =>
pIdxS v17 (.int .i64 (.ofNat 0)) 2 fun v18 =>
pFieldA v18 0 fun v19 =>
pLoad1 h5 v19 fun v20 =>
pBuild [.nils, .nils] [(0, 1, v20)] fun v21 =>
pBox h5 96 (.agg [.nils, .nils]) fun v22 h23 =>
pStore h23 v22 v21 2 fun h24 =>
loopC (σ := AV × AV × AV × AV × Unit) NN (fun i28 s25 h26 d27 =>
pNil s25.2.2.2.1 fun v29 =>
pFieldA v29 1 fun v30 =>
pLoad1 h26 v30 fun v31 =>
pLenS v31 fun v32 =>
pInt .lss s25.1 v32 fun v33 =>
pCond v33 (
pFieldA s25.2.1 1 fun v34 =>
pLoad1 h26 v34 fun v35 =>
pNil s25.2.2.2.1 fun v36 =>
pFieldA v36 1 fun v37 =>
pLoad1 h26 v37 fun v38 =>
pIdxS v38 s25.1 2 fun v39 =>
pFieldA v39 1 fun v40 =>
pLoad1 h26 v40 fun v41 =>
pAppend h26 3 1 v35 v41 fun v42 h43 =>
pFieldA s25.2.1 1 fun v44 =>
pStore h43 v44 v42 1 fun h45 =>
pInt .add s25.1 (.int .i64 (.ofNat 1)) fun v46 =>
i28 (v46, s25.2.1, s25.2.2.1, s25.2.2.2.1, ()) h45 d27) (
pLoadN h26 s25.2.1 2 fun v47 =>
pStore h26 s25.2.2.1 v47 2 fun h48 =>
pLeave d27 h48 fun h49 =>
pLoadN h49 s25.2.2.1 2 fun v50 =>
some (v50, h49))) ((.int .i64 (.ofNat 0)), v22, s4.2.1, s4.2.2.1, ()) h24 d6)) (v2, v0, a0, ()) h3 []
theorem S59_eq (c : CV) (a0 : AV) (h : AH) : enterK Try.prog NN P59 c 59 [a0] h = S59 c a0 h := by kernel_rfl
def W59 (c : CV) (l : List AV) (h : AH) : R := match l with | [a0] => S59 c a0 h | _ => none
theorem W59_ok : WOk Try.prog 59 W59 := by
  intro c l h r e
  unfold W59 at e
  split at e
  · exact ⟨P59, by rw [S59_eq]; exact e⟩
  · cases e
/- quietus/quietusbook.Same[quietus/api.Cell] -/
def P60 : Pl := (.n none .z (.n none .z (.n none (.n none .z (.n none (.n (some [5, 1, 0]) .z .z) .z)) .z)))
def S60 (_ : CV) (a0 a1 : AV) (h : AH) : R :=
pLenS a0 fun v0 =>
pLenS a1 fun v1 =>
pInt .neq v0 v1 fun v2 =>
pCond v2 (
some ((.bool false), h)) (
loopC (σ := AV × AV × AV × Unit) NN (fun i6 s3 h4 d5 =>
pLenS s3.2.2.1 fun v7 =>
pInt .lss s3.1 v7 fun v8 =>
pCond v8 (
pIdxS s3.2.2.1 s3.1 2 fun v9 =>
pLoadN h4 v9 2 fun v10 =>
pIdxS s3.2.1 s3.1 2 fun v11 =>
pLoadN h4 v11 2 fun v12 =>
pEqS [.bas .int 0, .bas .int 1] true v10 v12 fun v13 =>
pCond v13 (
pLeave d5 h4 fun h14 =>
some ((.bool false), h14)) (
pInt .add s3.1 (.int .i64 (.ofNat 1)) fun v15 =>
i6 (v15, s3.2.1, s3.2.2.1, ()) h4 d5)) (
pLeave d5 h4 fun h16 =>
some ((.bool true), h16))) ((.int .i64 (.ofNat 0)), a1, a0, ()) h [])
theorem S60_eq (c : CV) (a0 a1 : AV) (h : AH) : enterK Try.prog NN P60 c 60 [a0, a1] h = S60 c a0 a1 h := by kernel_rfl
def W60 (c : CV) (l : List AV) (h : AH) : R := match l with | [a0, a1] => S60 c a0 a1 h | _ => none
theorem W60_ok : WOk Try.prog 60 W60 := by
  intro c l h r e
  unfold W60 at e
  split at e
  · exact ⟨P60, by rw [S60_eq]; exact e⟩
  · cases e
/- (*quietus/view.View).Depth -/
def P61 : Pl := .z
def S61 (c : CV) (a0 : AV) (h : AH) : R :=
pNil a0 fun v0 =>
pFieldA v0 2 fun v1 =>
pLoad1 h v1 fun v2 =>
pCall c (.fn 89 [] []) [v2] h fun v3 h4 =>
some (v3, h4)
theorem S61_eq (c : CV) (a0 : AV) (h : AH) : enterK Try.prog NN P61 c 61 [a0] h = S61 c a0 h := by kernel_rfl
def W61 (c : CV) (l : List AV) (h : AH) : R := match l with | [a0] => S61 c a0 h | _ => none
theorem W61_ok : WOk Try.prog 61 W61 := by
  intro c l h r e
  unfold W61 at e
  split at e
  · exact ⟨P61, by rw [S61_eq]; exact e⟩
  · cases e
/- quietus/levels.New -/
def P62 : Pl := .z
def S62 (c : CV) (a0 : AV) (h : AH) : R :=
pMM false [a0, (.int .i64 (.ofNat 96))] fun v0 =>
pMM true [(.int .i64 (.ofNat 0)), v0] fun v1 =>
pCall c (.fn 90 [] []) [] h fun v2 h3 =>
pBuildS h3 119 [.nilp] 1 [(0, 1, v2)] fun v4 h5 =>
pBuild [(.int .i64 (.ofNat 0)), .nils] [(0, 1, v1), (1, 1, v4)] fun v6 =>
pBox h5 118 v6 fun v7 h8 =>
some (v7, h8)
theorem S62_eq (c : CV) (a0 : AV) (h : AH) : enterK Try.prog NN P62 c 62 [a0] h = S62 c a0 h := by kernel_rfl
def W62 (c : CV) (l : List AV) (h : AH) : R := match l with | [a0] => S62 c a0 h | _ => none
theorem W62_ok : WOk Try.prog 62 W62 := by
  intro c l h r e
  unfold W62 at e
  split at e
  · exact ⟨P62, by rw [S62_eq]; exact e⟩
  · cases e
/- quietus/quietusref7.NewLevels -/
def P63 : Pl := .z
def S63 (c : CV) (a0 : AV) (h : AH) : R :=
pCall c (.fn 18 [] []) [a0, (.int .i64 (.ofNat 0)), (.int .i64 (.ofNat 96))] h fun v0 h1 =>
pMake h1 96 [.nils, .nils] (.int .i64 (.ofNat 1)) (.int .i64 (.ofNat 1)) fun v2 h3 =>
pBuild [(.int .i64 (.ofNat 0)), .nils] [(0, 1, v0), (1, 1, v2)] fun v4 =>
pBox h3 101 v4 fun v5 h6 =>
some (v5, h6)
theorem S63_eq (c : CV) (a0 : AV) (h : AH) : enterK Try.prog NN P63 c 63 [a0] h = S63 c a0 h := by kernel_rfl
def W63 (c : CV) (l : List AV) (h : AH) : R := match l with | [a0] => S63 c a0 h | _ => none
theorem W63_ok : WOk Try.prog 63 W63 := by
  intro c l h r e
  unfold W63 at e
  split at e
  · exact ⟨P63, by rw [S63_eq]; exact e⟩
  · cases e
/- (*quietus/view.View).is -/
def P64 : Pl := (.n none .z (.n none (.r [[14, 7]]) .z))
def S64 (_ : CV) (a0 a1 : AV) (h : AH) : R :=
pInt .geq a1 (.int .i64 (.ofNat 1)) fun v0 =>
joinC (α := AV × AV × Unit → AH → R) (fun s1 h2 =>
pPick s1.2.1 s1.1 (.bool false) fun v4 =>
some (v4, h2)) fun j3 =>
pWant v0 true (
pNil a0 fun v5 =>
pFieldA v5 0 fun v6 =>
pLoad1 h v6 fun v7 =>
pLenS v7 fun v8 =>
pInt .lss a1 v8 fun v9 =>
j3 (v9, v0, ()) h) (
j3 (.undef, v0, ()) h)
theorem S64_eq (c : CV) (a0 a1 : AV) (h : AH) : enterK Try.prog NN P64 c 64 [a0, a1] h = S64 c a0 a1 h := by kernel_rfl
def W64 (c : CV) (l : List AV) (h : AH) : R := match l with | [a0, a1] => S64 c a0 a1 h | _ => none
theorem W64_ok : WOk Try.prog 64 W64 := by
  intro c l h r e
  unfold W64 at e
  split at e
  · exact ⟨P64, by rw [S64_eq]; exact e⟩
  · cases e
/- quietus/quietusref7.Place -/
def P65 : Pl := (.n none .z (.n none (.n none .z (.n none (.n (some [5, 1, 0]) .z .z) .z)) .z))
def S65 (_ : CV) (a0 a1 : AV) (h : AH) : R :=
loopC (σ := AV × AV × AV × Unit) NN (fun i3 s0 h1 d2 =>
pLenS s0.2.2.1 fun v4 =>
pInt .lss s0.1 v4 fun v5 =>
pCond v5 (
pIdxS s0.2.2.1 s0.1 2 fun v6 =>
pFieldA v6 0 fun v7 =>
pLoad1 h1 v7 fun v8 =>
pInt .eql v8 s0.2.1 fun v9 =>
pCond v9 (
pLeave d2 h1 fun h10 =>
some (s0.1, h10)) (
pInt .add s0.1 (.int .i64 (.ofNat 1)) fun v11 =>
i3 (v11, s0.2.1, s0.2.2.1, ()) h1 d2)) (
pLeave d2 h1 fun h12 =>
some ((.int .i64 (.negSucc 0)), h12))) ((.int .i64 (.ofNat 0)), a1, a0, ()) h []
theorem S65_eq (c : CV) (a0 a1 : AV) (h : AH) : enterK Try.prog NN P65 c 65 [a0, a1] h = S65 c a0 a1 h := by kernel_rfl
def W65 (c : CV) (l : List AV) (h : AH) : R := match l with | [a0, a1] => S65 c a0 a1 h | _ => none
theorem W65_ok : WOk Try.prog 65 W65 := by
  intro c l h r e
  unfold W65 at e
  split at e
  · exact ⟨P65, by rw [S65_eq]; exact e⟩
  · cases e
/- quietus/arena.header -/
def P66 : Pl := (.n none .z (.n none (.n none (.n none (.r [[9, 7, 0]]) (.n none .z (.n none (.r [[18, 16, 0]]) .z))) .z) .z))
def S66 (_ : CV) (a0 : AV) (h : AH) : R :=
pInt .geq a0 (.int .u64 (.ofNat 1)) fun v0 =>
joinC (α := AV × AV × AV × Unit → AH → R) (fun s1 h2 =>
pPick s1.2.1 s1.1 (.bool false) fun v4 =>
pCond v4 (
pConvI .i64 s1.2.2.1 fun v5 =>
some ((.tup [v5, (.bool false)]), h2)) (
pInt .geq s1.2.2.1 (.int .u64 (.ofNat 9)) fun v6 =>
joinC (α := AV × AV × AV × Unit → AH → R) (fun s7 h8 =>
pPick s7.2.1 s7.1 (.bool false) fun v10 =>
pCond v10 (
pInt .sub s7.2.2.1 (.int .u64 (.ofNat 8)) fun v11 =>
pConvI .i64 v11 fun v12 =>
some ((.tup [v12, (.bool true)]), h8)) (
some ((.tup [(.int .i64 (.ofNat 0)), (.bool false)]), h8))) fun j9 =>
pWant v6 true (
pInt .leq s1.2.2.1 (.int .u64 (.ofNat 12)) fun v13 =>
j9 (v13, v6, s1.2.2.1, ()) h2) (
j9 (.undef, v6, s1.2.2.1, ()) h2))) fun j3 =>
pWant v0 true (
pInt .leq a0 (.int .u64 (.ofNat 4)) fun v14 =>
j3 (v14, v0, a0, ()) h) (
j3 (.undef, v0, a0, ()) h)
theorem S66_eq (c : CV) (a0 : AV) (h : AH) : enterK Try.prog NN P66 c 66 [a0] h = S66 c a0 h := by kernel_rfl
def W66 (c : CV) (l : List AV) (h : AH) : R := match l with | [a0] => S66 c a0 h | _ => none
theorem W66_ok : WOk Try.prog 66 W66 := by
  intro c l h r e
  unfold W66 at e
  split at e
  · exact ⟨P66, by rw [S66_eq]; exact e⟩
  · cases e
/- quietus/quietusref7.place -/
def P67 : Pl := .z
def S67 (_ : CV) (a0 : AV) (h : AH) : R :=
pInt .geq a0 (.int .u64 (.ofNat 2147483648)) fun v0 =>
pCond v0 (
some ((.int .i64 (.negSucc 0)), h)) (
pConvI .i64 a0 fun v1 =>
some (v1, h))
theorem S67_eq (c : CV) (a0 : AV) (h : AH) : enterK Try.prog NN P67 c 67 [a0] h = S67 c a0 h := by kernel_rfl
def W67 (c : CV) (l : List AV) (h : AH) : R := match l with | [a0] => S67 c a0 h | _ => none
theorem W67_ok : WOk Try.prog 67 W67 := by
  intro c l h r e
  unfold W67 at e
  split at e
  · exact ⟨P67, by rw [S67_eq]; exact e⟩
  · cases e
/- quietus/quietusref7.Size -/
def P68 : Pl := (.n none .z (.n none (.n none (.r [[7, 5, 0]]) .z) .z))
def S68 (_ : CV) (a0 : AV) (h : AH) : R :=
pInt .lss a0 (.int .i64 (.ofNat 1)) fun v0 =>
joinC (α := AV × AV × AV × Unit → AH → R) (fun s1 h2 =>
pPick s1.2.1 (.bool true) s1.1 fun v4 =>
pCond v4 (
some ((.int .i64 (.ofNat 0)), h2)) (
pConvI .u64 s1.2.2.1 fun v5 =>
pShift .shl (.int .i64 (.ofNat 1)) v5 fun v6 =>
some (v6, h2))) fun j3 =>
pWant v0 false (
pInt .gtr a0 (.int .i64 (.ofNat 4)) fun v7 =>
j3 (v7, v0, a0, ()) h) (
j3 (.undef, v0, a0, ()) h)
theorem S68_eq (c : CV) (a0 : AV) (h : AH) : enterK Try.prog NN P68 c 68 [a0] h = S68 c a0 h := by kernel_rfl
def W68 (c : CV) (l : List AV) (h : AH) : R := match l with | [a0] => S68 c a0 h | _ => none
theorem W68_ok : WOk Try.prog 68 W68 := by
  intro c l h r e
  unfold W68 at e
  split at e
  · exact ⟨P68, by rw [S68_eq]; exact e⟩
  · cases e
/- slices.IndexFunc[[]quietus/api.Block,quietus/api.Block] -/
def P69 : Pl := (.n none .z (.n none (.n none .z (.n none (.n (some [8, 7, 1, 0]) .z .z) .z)) .z))
def S69 (c : CV) (a0 a1 : AV) (h : AH) : R :=
pLenS a0 fun v0 =>
loopC (σ := AV × AV × AV × AV × Unit) NN (fun i4 s1 h2 d3 =>
pInt .lss s1.1 s1.2.1 fun v5 =>
pCond v5 (
pIdxS s1.2.2.2.1 s1.1 3 fun v6 =>
pLoadN h2 v6 3 fun v7 =>
pCall c s1.2.2.1 [v7] h2 fun v8 h9 =>
pCond v8 (
pLeave d3 h9 fun h10 =>
some (s1.1, h10)) (
pInt .add s1.1 (.int .i64 (.ofNat 1)) fun v11 =>
i4 (v11, s1.2.1, s1.2.2.1, s1.2.2.2.1, ()) h9 d3)) (
pLeave d3 h2 fun h12 =>
some ((.int .i64 (.negSucc 0)), h12))) ((.int .i64 (.ofNat 0)), v0, a1, a0, ()) h []
theorem S69_eq (c : CV) (a0 a1 : AV) (h : AH) : enterK Try.prog NN P69 c 69 [a0, a1] h = S69 c a0 a1 h := by kernel_rfl
def W69 (c : CV) (l : List AV) (h : AH) : R := match l with | [a0, a1] => S69 c a0 a1 h | _ => none
theorem W69_ok : WOk Try.prog 69 W69 := by
  intro c l h r e
  unfold W69 at e
  split at e
  · exact ⟨P69, by rw [S69_eq]; exact e⟩
  · cases e
/- quietus/arena.Lists$1 -/
def P70 : Pl := (.n none .z (.n none (.r [[14, 10, 3], [19, 16]]) .z))
def S70 (_ : CV) (a0 a1 a2 : AV) (h : AH) : R :=
pBox h 71 a0 fun v0 h1 =>
pFieldA v0 0 fun v2 =>
pLoad1 h1 v2 fun v3 =>
pConvI .u64 v3 fun v4 =>
pLoad1 h1 a1 fun v5 =>
pInt .eql v4 v5 fun v6 =>
joinC (α := AV × AV × AV × Unit → AH → R) (fun s7 h8 =>
pPick s7.2.1 s7.1 (.bool false) fun v10 =>
joinC (α := AV × AV × Unit → AH → R) (fun s11 h12 =>
pPick s11.2.1 s11.1 (.bool false) fun v14 =>
some (v14, h12)) fun j13 =>
pWant v10 true (
pFieldA s7.2.2.1 2 fun v15 =>
pLoad1 h8 v15 fun v16 =>
pUn .not v16 fun v17 =>
j13 (v17, v10, ()) h8) (
j13 (.undef, v10, ()) h8)) fun j9 =>
pWant v6 true (
pFieldA v0 1 fun v18 =>
pLoad1 h1 v18 fun v19 =>
pLoad1 h1 a2 fun v20 =>
pInt .eql v19 v20 fun v21 =>
j9 (v21, v6, v0, ()) h1) (
j9 (.undef, v6, v0, ()) h1)
theorem S70_eq (c : CV) (a0 a1 a2 : AV) (h : AH) : enterK Try.prog NN P70 c 70 [a0, a1, a2] h = S70 c a0 a1 a2 h := by kernel_rfl
def W70 (c : CV) (l : List AV) (h : AH) : R := match l with | [a0, a1, a2] => S70 c a0 a1 a2 h | _ => none
theorem W70_ok : WOk Try.prog 70 W70 := by
  intro c l h r e
  unfold W70 at e
  split at e
  · exact ⟨P70, by rw [S70_eq]; exact e⟩
  · cases e
/- slices.Contains[[]int,int] -/
def P71 : Pl := .z
def S71 (c : CV) (a0 a1 : AV) (h : AH) : R :=
pCall c (.fn 91 [] []) [a0, a1] h fun v0 h1 =>
pInt .geq v0 (.int .i64 (.ofNat 0)) fun v2 =>
some (v2, h1)
theorem S71_eq (c : CV) (a0 a1 : AV) (h : AH) : enterK Try.prog NN P71 c 71 [a0, a1] h = S71 c a0 a1 h := by kernel_rfl
def W71 (c : CV) (l : List AV) (h : AH) : R := match l with | [a0, a1] => S71 c a0 a1 h | _ => none
theorem W71_ok : WOk Try.prog 71 W71 := by
  intro c l h r e
  unfold W71 at e
  split at e
  · exact ⟨P71, by rw [S71_eq]; exact e⟩
  · cases e
/- (*quietus/levels.Levels).Get -/
def P72 : Pl := (.n none .z (.n none (.n none .z (.n none (.n (some [5, 4, 3]) .z .z) .z)) .z))
def S72 (c : CV) (a0 a1 : AV) (h : AH) : R :=
pBox h 3 a1 fun v0 h1 =>
pBox h1 43 (.int .u64 (.ofNat 0)) fun v2 h3 =>
pBox h3 4 (.bool false) fun v4 h5 =>
pNil a0 fun v6 =>
pFieldA v6 1 fun v7 =>
pLoad1 h5 v7 fun v8 =>
pCall c (.fn 75 [] []) [v8] h5 fun v9 h10 =>
pCallF c v9 [.yield (h10.new .dfd).nx] ((h10.new .dfd).new (.loop .ready none 72 [1, 0, 1, 0] [5, 4, 3] [v4, v2, v0] h10.nx)) fun _ h11 =>
pEndLoop h11 (h10.new .dfd).nx fun p13 h12 =>
pNone p13 (
pStore h12 v2 (.int .u64 (.ofNat 0)) 1 fun h14 =>
pStore h14 v4 (.bool false) 1 fun h15 =>
pLeave (h10.nx :: []) h15 fun h16 =>
pLoad1 h16 v2 fun v17 =>
pLoad1 h16 v4 fun v18 =>
some ((.tup [v17, v18]), h16)) <|
pIs p13 .ret (
pLeave (h10.nx :: []) h12 fun h19 =>
pLoad1 h19 v2 fun v20 =>
pLoad1 h19 v4 fun v21 =>
some ((.tup [v20, v21]), h19)) <|
none
theorem S72_eq (c : CV) (a0 a1 : AV) (h : AH) : enterK Try.prog NN P72 c 72 [a0, a1] h = S72 c a0 a1 h := by kernel_rfl
def W72 (c : CV) (l : List AV) (h : AH) : R := match l with | [a0, a1] => S72 c a0 a1 h | _ => none
theorem W72_ok : WOk Try.prog 72 W72 := by
  intro c l h r e
  unfold W72 at e
  split at e
  · exact ⟨P72, by rw [S72_eq]; exact e⟩
  · cases e
/- (*quietus/levels.Levels).Take -/
def P73 : Pl := (.n none .z (.n none .z (.n none .z (.n none (.n none .z (.n none (.n (some [20, 19, 18, 5, 0]) .z .z) .z)) .z))))
def S73 (c : CV) (a0 a1 : AV) (h : AH) : R :=
pCall c (.fn 76 [] []) [(.int .i64 (.ofNat 96))] h fun v0 h1 =>
pCall c (.fn 93 [] []) [a0] h1 fun v2 h3 =>
pNil v2 fun v4 =>
pFieldA v4 0 fun v5 =>
pLoad1 h3 v5 fun v6 =>
pCall c (.fn 78 [] []) [v6] h3 fun v7 h8 =>
pCall c (.fn 77 [] []) [v0, v7] h8 fun _ h10 =>
pLenS a1 fun v11 =>
loopC (σ := AV × AV × AV × AV × AV × Unit) NN (fun i15 s12 h13 d14 =>
pInt .lss s12.1 s12.2.1 fun v16 =>
pCond v16 (
pIdxS s12.2.2.1 s12.1 2 fun v17 =>
pLoadN h13 v17 2 fun v18 =>
pBox h13 83 (.agg [(.int .i64 (.ofNat 0)), (.int .u64 (.ofNat 0))]) fun v19 h20 =>
pStore h20 v19 v18 2 fun h21 =>
pFieldA v19 0 fun v22 =>
pLoad1 h21 v22 fun v23 =>
pFieldA v19 1 fun v24 =>
pLoad1 h21 v24 fun v25 =>
pCall c (.fn 94 [] []) [s12.2.2.2.2.1, v23, v25] h21 fun v26 h27 =>
pInt .neq v26 (.int .i64 (.ofNat 0)) fun v28 =>
pCond v28 (
pCall c (.fn 93 [] []) [s12.2.2.2.2.1] h27 fun v29 h30 =>
pNil v29 fun v31 =>
pFieldA v31 0 fun v32 =>
pStore h30 v32 s12.2.2.2.1 1 fun h33 =>
pLeave d14 h33 fun h34 =>
some (v26, h34)) (
pInt .add s12.1 (.int .i64 (.ofNat 1)) fun v35 =>
i15 (v35, s12.2.1, s12.2.2.1, s12.2.2.2.1, s12.2.2.2.2.1, ()) h27 d14)) (
pLeave d14 h13 fun h36 =>
some ((.int .i64 (.ofNat 0)), h36))) ((.int .i64 (.ofNat 0)), v11, a1, v0, a0, ()) h10 []
theorem S73_eq (c : CV) (a0 a1 : AV) (h : AH) : enterK Try.prog NN P73 c 73 [a0, a1] h = S73 c a0 a1 h := by kernel_rfl
def W73 (c : CV) (l : List AV) (h : AH) : R := match l with | [a0, a1] => S73 c a0 a1 h | _ => none
theorem W73_ok : WOk Try.prog 73 W73 := by
  intro c l h r e
  unfold W73 at e
  split at e
  · exact ⟨P73, by rw [S73_eq]; exact e⟩
  · cases e
/- (*quietus/levels.Levels).Free -/
def P74 : Pl := .z
def S74 (c : CV) (a0 a1 : AV) (h : AH) : R :=
pCall c (.fn 93 [] []) [a0] h fun v0 h1 =>
pNil v0 fun v2 =>
pFieldA v2 1 fun v3 =>
pLoad1 h1 v3 fun v4 =>
pBuildS h1 3 [(.int .i64 (.ofNat 0))] 1 [(0, 1, a1)] fun v5 h6 =>
pAppend h6 3 1 v4 v5 fun v7 h8 =>
pNil v0 fun v9 =>
pFieldA v9 1 fun v10 =>
pStore h8 v10 v7 1 fun h11 =>
some ((.tup []), h11)
theorem S74_eq (c : CV) (a0 a1 : AV) (h : AH) : enterK Try.prog NN P74 c 74 [a0, a1] h = S74 c a0 a1 h := by kernel_rfl
def W74 (c : CV) (l : List AV) (h : AH) : R := match l with | [a0, a1] => S74 c a0 a1 h | _ => none
theorem W74_ok : WOk Try.prog 74 W74 := by
  intro c l h r e
  unfold W74 at e
  split at e
  · exact ⟨P74, by rw [S74_eq]; exact e⟩
  · cases e
/- slices.Backward[[]*quietus/levels.level,*quietus/levels.level] -/
def P75 : Pl := .z
def S75 (_ : CV) (a0 : AV) (h : AH) : R :=
pBox h 116 a0 fun v0 h1 =>
some ((.fn 95 [] [v0]), h1)
theorem S75_eq (c : CV) (a0 : AV) (h : AH) : enterK Try.prog NN P75 c 75 [a0] h = S75 c a0 h := by kernel_rfl
def W75 (c : CV) (l : List AV) (h : AH) : R := match l with | [a0] => S75 c a0 h | _ => none
theorem W75_ok : WOk Try.prog 75 W75 := by
  intro c l h r e
  unfold W75 at e
  split at e
  · exact ⟨P75, by rw [S75_eq]; exact e⟩
  · cases e
/- quietus/writes.New -/
def P76 : Pl := .z
def S76 (_ : CV) (a0 : AV) (h : AH) : R :=
pMM false [a0, (.int .i64 (.ofNat 96))] fun v0 =>
pMM true [(.int .i64 (.ofNat 0)), v0] fun v1 =>
pBuild [(.int .i64 (.ofNat 0)), .nils] [(0, 1, v1)] fun v2 =>
pBox h 134 v2 fun v3 h4 =>
some (v3, h4)
theorem S76_eq (c : CV) (a0 : AV) (h : AH) : enterK Try.prog NN P76 c 76 [a0] h = S76 c a0 h := by kernel_rfl
def W76 (c : CV) (l : List AV) (h : AH) : R := match l with | [a0] => S76 c a0 h | _ => none
theorem W76_ok : WOk Try.prog 76 W76 := by
  intro c l h r e
  unfold W76 at e
  split at e
  · exact ⟨P76, by rw [S76_eq]; exact e⟩
  · cases e
/- (*quietus/writes.Writes).Take -/
def P77 : Pl := (.n none .z (.n none .z (.n none (.n none .z (.n none (.n (some [13, 12, 11, 5, 0]) .z .z) .z)) .z)))
def S77 (c : CV) (a0 a1 : AV) (h : AH) : R :=
pCall c (.fn 78 [] []) [a0] h fun v0 h1 =>
pLenS a1 fun v2 =>
loopC (σ := AV × AV × AV × AV × AV × Unit) NN (fun i6 s3 h4 d5 =>
pInt .lss s3.1 s3.2.1 fun v7 =>
pCond v7 (
pIdxS s3.2.2.1 s3.1 2 fun v8 =>
pLoadN h4 v8 2 fun v9 =>
pBox h4 83 (.agg [(.int .i64 (.ofNat 0)), (.int .u64 (.ofNat 0))]) fun v10 h11 =>
pStore h11 v10 v9 2 fun h12 =>
pFieldA v10 0 fun v13 =>
pLoad1 h12 v13 fun v14 =>
pFieldA v10 1 fun v15 =>
pLoad1 h12 v15 fun v16 =>
pCall c (.fn 96 [] []) [s3.2.2.2.2.1, v14, v16] h12 fun v17 h18 =>
pInt .neq v17 (.int .i64 (.ofNat 0)) fun v19 =>
pCond v19 (
pNil s3.2.2.2.2.1 fun v20 =>
pFieldA v20 1 fun v21 =>
pStore h18 v21 s3.2.2.2.1 1 fun h22 =>
pLeave d5 h22 fun h23 =>
some (v17, h23)) (
pInt .add s3.1 (.int .i64 (.ofNat 1)) fun v24 =>
i6 (v24, s3.2.1, s3.2.2.1, s3.2.2.2.1, s3.2.2.2.2.1, ()) h18 d5)) (
pLeave d5 h4 fun h25 =>
some ((.int .i64 (.ofNat 0)), h25))) ((.int .i64 (.ofNat 0)), v2, a1, v0, a0, ()) h1 []
theorem S77_eq (c : CV) (a0 a1 : AV) (h : AH) : enterK Try.prog NN P77 c 77 [a0, a1] h = S77 c a0 a1 h := by kernel_rfl
def W77 (c : CV) (l : List AV) (h : AH) : R := match l with | [a0, a1] => S77 c a0 a1 h | _ => none
theorem W77_ok : WOk Try.prog 77 W77 := by
  intro c l h r e
  unfold W77 at e
  split at e
  · exact ⟨P77, by rw [S77_eq]; exact e⟩
  · cases e
/- (*quietus/writes.Writes).All -/
def P78 : Pl := .z
def S78 (c : CV) (a0 : AV) (h : AH) : R :=
pNil a0 fun v0 =>
pFieldA v0 1 fun v1 =>
pLoad1 h v1 fun v2 =>
pCall c (.fn 97 [] []) [v2] h fun v3 h4 =>
some (v3, h4)
theorem S78_eq (c : CV) (a0 : AV) (h : AH) : enterK Try.prog NN P78 c 78 [a0] h = S78 c a0 h := by kernel_rfl
def W78 (c : CV) (l : List AV) (h : AH) : R := match l with | [a0] => S78 c a0 h | _ => none
theorem W78_ok : WOk Try.prog 78 W78 := by
  intro c l h r e
  unfold W78 at e
  split at e
  · exact ⟨P78, by rw [S78_eq]; exact e⟩
  · cases e
/- quietus/quietusref7.header -/
def P79 : Pl := (.n none .z (.n none (.n none (.r [[19, 13, 2, 1, 0]]) .z) (.n none .z (.n none .z (.n none (.n none .z (.n none (.n (some [10, 8, 2]) .z .z) .z)) .z)))))
def S79 (c : CV) (a0 a1 a2 : AV) (h : AH) : R :=
pInt .leq a1 (.int .i64 (.ofNat 14)) fun v0 =>
joinC (α := AV × AV × AV × AV × AV × Unit → AH → R) (fun s1 h2 =>
pPick s1.2.1 (.bool true) s1.1 fun v4 =>
pCond v4 (
some ((.tup [(.int .i64 (.ofNat 0)), (.int .i64 (.ofNat 2))]), h2)) (
pInt .sub s1.2.2.2.1 (.int .i64 (.ofNat 1)) fun v5 =>
pCall c (.fn 82 [] []) [s1.2.2.2.2.1, v5] h2 fun v6 h7 =>
pExtract v6 0 fun v8 =>
pExtract v6 1 fun v9 =>
pInt .neq v9 (.int .i64 (.ofNat 0)) fun v10 =>
pCond v10 (
some ((.tup [(.int .i64 (.ofNat 0)), v9]), h7)) (
loopC (σ := AV × AV × AV × Unit) NN (fun i14 s11 h12 d13 =>
pInt .leq s11.1 (.int .i64 (.ofNat 4)) fun v15 =>
pCond v15 (
pInt .add s11.1 s11.2.2.1 fun v16 =>
pConvI .u64 v16 fun v17 =>
pInt .eql s11.2.1 v17 fun v18 =>
pCond v18 (
pLeave d13 h12 fun h19 =>
some ((.tup [s11.1, (.int .i64 (.ofNat 0))]), h19)) (
pInt .add s11.1 (.int .i64 (.ofNat 1)) fun v20 =>
i14 (v20, s11.2.1, s11.2.2.1, ()) h12 d13)) (
pLeave d13 h12 fun h21 =>
some ((.tup [(.int .i64 (.ofNat 0)), (.int .i64 (.ofNat 2))]), h21))) ((.int .i64 (.ofNat 1)), v8, s1.2.2.1, ()) h7 []))) fun j3 =>
pWant v0 false (
pNil a0 fun v22 =>
pFieldA v22 0 fun v23 =>
pLoad1 h v23 fun v24 =>
pInt .geq a1 v24 fun v25 =>
j3 (v25, v0, a2, a1, a0, ()) h) (
j3 (.undef, v0, a2, a1, a0, ()) h)
theorem S79_eq (c : CV) (a0 a1 a2 : AV) (h : AH) : enterK Try.prog NN P79 c 79 [a0, a1, a2] h = S79 c a0 a1 a2 h := by kernel_rfl
def W79 (c : CV) (l : List AV) (h : AH) : R := match l with | [a0, a1, a2] => S79 c a0 a1 a2 h | _ => none
theorem W79_ok : WOk Try.prog 79 W79 := by
  intro c l h r e
  unfold W79 at e
  split at e
  · exact ⟨P79, by rw [S79_eq]; exact e⟩
  · cases e
/- (*quietus/quietusref7.View).Take -/
def P80 : Pl := (.n none .z (.n none (.n none .z (.n none (.n (some [5, 1, 0]) .z .z) .z)) .z))
def S80 (c : CV) (a0 a1 : AV) (h : AH) : R :=
loopC (σ := AV × AV × AV × Unit) NN (fun i3 s0 h1 d2 =>
pLenS s0.2.1 fun v4 =>
pInt .lss s0.1 v4 fun v5 =>
pCond v5 (
pIdxS s0.2.1 s0.1 2 fun v6 =>
pFieldA v6 0 fun v7 =>
pLoad1 h1 v7 fun v8 =>
pCall c (.fn 49 [] []) [s0.2.2.1, v8] h1 fun v9 h10 =>
pUn .not v9 fun v11 =>
pCond v11 (
pLeave d2 h10 fun h12 =>
some ((.int .i64 (.ofNat 2)), h12)) (
pInt .add s0.1 (.int .i64 (.ofNat 1)) fun v13 =>
i3 (v13, s0.2.1, s0.2.2.1, ()) h10 d2)) (
pNil s0.2.2.1 fun v14 =>
pFieldA v14 2 fun v15 =>
pLoad1 h1 v15 fun v16 =>
pCall c (.fn 98 [] []) [v16, s0.2.1] h1 fun v17 h18 =>
pLeave d2 h18 fun h19 =>
some (v17, h19))) ((.int .i64 (.ofNat 0)), a1, a0, ()) h []
theorem S80_eq (c : CV) (a0 a1 : AV) (h : AH) : enterK Try.prog NN P80 c 80 [a0, a1] h = S80 c a0 a1 h := by kernel_rfl
def W80 (c : CV) (l : List AV) (h : AH) : R := match l with | [a0, a1] => S80 c a0 a1 h | _ => none
theorem W80_ok : WOk Try.prog 80 W80 := by
  intro c l h r e
  unfold W80 at e
  split at e
  · exact ⟨P80, by rw [S80_eq]; exact e⟩
  · cases e
/- (*quietus/quietusref7.Levels).Free -/
def P81 : Pl := (.n none .z (.r [[]]))
def S81 (_ : CV) (a0 a1 : AV) (h : AH) : R :=
pNil a0 fun v0 =>
pFieldA v0 1 fun v1 =>
pLoad1 h v1 fun v2 =>
pLenS v2 fun v3 =>
pInt .sub v3 (.int .i64 (.ofNat 1)) fun v4 =>
joinC (α := Unit → AH → R) (fun _ h6 =>
some ((.tup []), h6)) fun j7 =>
pNil a0 fun v8 =>
pFieldA v8 1 fun v9 =>
pLoad1 h v9 fun v10 =>
pNil a0 fun v11 =>
pFieldA v11 1 fun v12 =>
pLoad1 h v12 fun v13 =>
pIdxS v13 v4 2 fun v14 =>
pFieldA v14 1 fun v15 =>
pLoad1 h v15 fun v16 =>
pAppend h 3 1 .nils v16 fun v17 h18 =>
pBuildS h18 3 [(.int .i64 (.ofNat 0))] 1 [(0, 1, a1)] fun v19 h20 =>
pAppend h20 3 1 v17 v19 fun v21 h22 =>
pIdxS v10 v4 2 fun v23 =>
pFieldA v23 1 fun v24 =>
pStore h22 v24 v21 1 fun h25 =>
pChk v9 none v10 h20 h22 h.nx <|
pChk v9 none v10 h h18 h.nx <|
j7 (()) h25
theorem S81_eq (c : CV) (a0 a1 : AV) (h : AH) : enterK Try.prog NN P81 c 81 [a0, a1] h = S81 c a0 a1 h := by kernel_rfl
def W81 (c : CV) (l : List AV) (h : AH) : R := match l with | [a0, a1] => S81 c a0 a1 h | _ => none
theorem W81_ok : WOk Try.prog 81 W81 := by
  intro c l h r e
  unfold W81 at e
  split at e
  · exact ⟨P81, by rw [S81_eq]; exact e⟩
  · cases e
/- (*quietus/quietusref7.View).Read -/
def P82 : Pl := .z
def S82 (c : CV) (a0 a1 : AV) (h : AH) : R :=
pCall c (.fn 49 [] []) [a0, a1] h fun v0 h1 =>
pUn .not v0 fun v2 =>
pCond v2 (
some ((.tup [(.int .u64 (.ofNat 0)), (.int .i64 (.ofNat 2))]), h1)) (
pNil a0 fun v3 =>
pFieldA v3 2 fun v4 =>
pLoad1 h1 v4 fun v5 =>
pCall c (.fn 99 [] []) [v5, a1] h1 fun v6 h7 =>
pExtract v6 0 fun v8 =>
pExtract v6 1 fun v9 =>
pCond v9 (
some ((.tup [v8, (.int .i64 (.ofNat 0))]), h7)) (
pNil a0 fun v10 =>
pFieldA v10 1 fun v11 =>
pLoad1 h7 v11 fun v12 =>
pCall c (.fn 65 [] []) [v12, a1] h7 fun v13 h14 =>
pInt .geq v13 (.int .i64 (.ofNat 0)) fun v15 =>
pCond v15 (
pNil a0 fun v16 =>
pFieldA v16 1 fun v17 =>
pLoad1 h14 v17 fun v18 =>
pIdxS v18 v13 2 fun v19 =>
pFieldA v19 1 fun v20 =>
pLoad1 h14 v20 fun v21 =>
some ((.tup [v21, (.int .i64 (.ofNat 0))]), h14)) (
pNil a0 fun v22 =>
pFieldA v22 3 fun v23 =>
pStore h14 v23 a1 1 fun h24 =>
some ((.tup [(.int .u64 (.ofNat 0)), (.int .i64 (.ofNat 11))]), h24))))
theorem S82_eq (c : CV) (a0 a1 : AV) (h : AH) : enterK Try.prog NN P82 c 82 [a0, a1] h = S82 c a0 a1 h := by kernel_rfl
def W82 (c : CV) (l : List AV) (h : AH) : R := match l with | [a0, a1] => S82 c a0 a1 h | _ => none
theorem W82_ok : WOk Try.prog 82 W82 := by
  intro c l h r e
  unfold W82 at e
  split at e
  · exact ⟨P82, by rw [S82_eq]; exact e⟩
  · cases e
/- (*quietus/levels.Levels).Open -/
def P83 : Pl := (.n none .z (.n none .z (.n none (.r [[]]) .z)))
def S83 (c : CV) (a0 : AV) (h : AH) : R :=
pNil a0 fun v0 =>
pFieldA v0 1 fun v1 =>
pLoad1 h v1 fun v2 =>
pLenS v2 fun v3 =>
pInt .geq v3 (.int .i64 (.ofNat 6)) fun v4 =>
pCond v4 (
some ((.int .i64 (.ofNat 9)), h)) (
joinC (α := Unit → AH → R) (fun _ h6 =>
some ((.int .i64 (.ofNat 0)), h6)) fun j7 =>
pNil a0 fun v8 =>
pFieldA v8 1 fun v9 =>
pLoad1 h v9 fun v10 =>
pCall c (.fn 90 [] []) [] h fun v11 h12 =>
pBuildS h12 119 [.nilp] 1 [(0, 1, v11)] fun v13 h14 =>
pAppend h14 119 1 v10 v13 fun v15 h16 =>
pNil a0 fun v17 =>
pFieldA v17 1 fun v18 =>
pStore h16 v18 v15 1 fun h19 =>
pChk v9 none v10 h h12 h.nx <|
j7 (()) h19)
theorem S83_eq (c : CV) (a0 : AV) (h : AH) : enterK Try.prog NN P83 c 83 [a0] h = S83 c a0 h := by kernel_rfl
def W83 (c : CV) (l : List AV) (h : AH) : R := match l with | [a0] => S83 c a0 h | _ => none
theorem W83_ok : WOk Try.prog 83 W83 := by
  intro c l h r e
  unfold W83 at e
  split at e
  · exact ⟨P83, by rw [S83_eq]; exact e⟩
  · cases e
/- (*quietus/levels.Levels).Keep -/
def P84 : Pl := (.n none .z (.n none .z (.n none .z (.n none .z (.n none .z (.n none (.r [[2]]) .z))))))
def S84 (c : CV) (a0 : AV) (h : AH) : R :=
pCall c (.fn 93 [] []) [a0] h fun v0 h1 =>
pCall c (.fn 86 [] []) [a0] h1 fun v2 h3 =>
pInt .neq v2 (.int .i64 (.ofNat 0)) fun v4 =>
pCond v4 (
some (v2, h3)) (
pCall c (.fn 93 [] []) [a0] h3 fun v5 h6 =>
pNil v5 fun v7 =>
pFieldA v7 1 fun v8 =>
pLoad1 h6 v8 fun v9 =>
pNil v0 fun v10 =>
pFieldA v10 1 fun v11 =>
pLoad1 h6 v11 fun v12 =>
pAppend h6 3 1 v9 v12 fun v13 h14 =>
pNil v5 fun v15 =>
pFieldA v15 1 fun v16 =>
pStore h14 v16 v13 1 fun h17 =>
joinC (α := AV × Unit → AH → R) (fun s18 h19 =>
some (s18.1, h19)) fun j20 =>
pNil v5 fun v21 =>
pFieldA v21 0 fun v22 =>
pLoad1 h17 v22 fun v23 =>
pNil v0 fun v24 =>
pFieldA v24 0 fun v25 =>
pLoad1 h17 v25 fun v26 =>
pCall c (.fn 78 [] []) [v26] h17 fun v27 h28 =>
pCall c (.fn 77 [] []) [v23, v27] h28 fun v29 h30 =>
pChk v22 none v23 h17 h28 h17.nx <|
j20 (v29, ()) h30)
theorem S84_eq (c : CV) (a0 : AV) (h : AH) : enterK Try.prog NN P84 c 84 [a0] h = S84 c a0 h := by kernel_rfl
def W84 (c : CV) (l : List AV) (h : AH) : R := match l with | [a0] => S84 c a0 h | _ => none
theorem W84_ok : WOk Try.prog 84 W84 := by
  intro c l h r e
  unfold W84 at e
  split at e
  · exact ⟨P84, by rw [S84_eq]; exact e⟩
  · cases e
/- quietus/quietusref7.Put -/
def P85 : Pl := .z
def S85 (c : CV) (a0 a1 a2 : AV) (h : AH) : R :=
pAppend h 83 2 .nils a0 fun v0 h1 =>
pCall c (.fn 65 [] []) [v0, a1] h1 fun v2 h3 =>
pInt .geq v2 (.int .i64 (.ofNat 0)) fun v4 =>
pCond v4 (
pIdxS v0 v2 2 fun v5 =>
pFieldA v5 1 fun v6 =>
pStore h3 v6 a2 1 fun h7 =>
some (v0, h7)) (
pBuild [(.int .i64 (.ofNat 0)), (.int .u64 (.ofNat 0))] [(0, 1, a1), (1, 1, a2)] fun v8 =>
pBuildS h3 83 [(.int .i64 (.ofNat 0)), (.int .u64 (.ofNat 0))] 1 [(0, 2, v8)] fun v9 h10 =>
pAppend h10 83 2 v0 v9 fun v11 h12 =>
some (v11, h12))
theorem S85_eq (c : CV) (a0 a1 a2 : AV) (h : AH) : enterK Try.prog NN P85 c 85 [a0, a1, a2] h = S85 c a0 a1 a2 h := by kernel_rfl
def W85 (c : CV) (l : List AV) (h : AH) : R := match l with | [a0, a1, a2] => S85 c a0 a1 a2 h | _ => none
theorem W85_ok : WOk Try.prog 85 W85 := by
  intro c l h r e
  unfold W85 at e
  split at e
  · exact ⟨P85, by rw [S85_eq]; exact e⟩
  · cases e
/- (*quietus/levels.Levels).Drop -/
def P86 : Pl := .z
def S86 (_ : CV) (a0 : AV) (h : AH) : R :=
pNil a0 fun v0 =>
pFieldA v0 1 fun v1 =>
pLoad1 h v1 fun v2 =>
pLenS v2 fun v3 =>
pInt .eql v3 (.int .i64 (.ofNat 1)) fun v4 =>
pCond v4 (
some ((.int .i64 (.ofNat 10)), h)) (
pNil a0 fun v5 =>
pFieldA v5 1 fun v6 =>
pLoad1 h v6 fun v7 =>
pNil a0 fun v8 =>
pFieldA v8 1 fun v9 =>
pLoad1 h v9 fun v10 =>
pLenS v10 fun v11 =>
pInt .sub v11 (.int .i64 (.ofNat 1)) fun v12 =>
pSlice h 119 1 v7 none (some v12) fun v13 =>
pNil a0 fun v14 =>
pFieldA v14 1 fun v15 =>
pStore h v15 v13 1 fun h16 =>
some ((.int .i64 (.ofNat 0)), h16))
theorem S86_eq (c : CV) (a0 : AV) (h : AH) : enterK Try.prog NN P86 c 86 [a0] h = S86 c a0 h := by kernel_rfl
def W86 (c : CV) (l : List AV) (h : AH) : R := match l with | [a0] => S86 c a0 h | _ => none
theorem W86_ok : WOk Try.prog 86 W86 := by
  intro c l h r e
  unfold W86 at e
  split at e
  · exact ⟨P86, by rw [S86_eq]; exact e⟩
  · cases e
/- quietus/quietusref7.Class -/
def P87 : Pl := (.n none .z (.n none (.n none (.r [[8, 6, 0]]) .z) (.n none .z (.n none (.n none (.n (some [3, 0]) .z .z) .z) .z))))
def S87 (c : CV) (a0 : AV) (h : AH) : R :=
pInt .lss a0 (.int .i64 (.ofNat 1)) fun v0 =>
joinC (α := AV × AV × AV × Unit → AH → R) (fun s1 h2 =>
pPick s1.2.1 (.bool true) s1.1 fun v4 =>
pCond v4 (
some ((.int .i64 (.ofNat 0)), h2)) (
loopC (σ := AV × AV × Unit) NN (fun i8 s5 h6 d7 =>
pCall c (.fn 68 [] []) [s5.1] h6 fun v9 h10 =>
pInt .lss v9 s5.2.1 fun v11 =>
pCond v11 (
pInt .add s5.1 (.int .i64 (.ofNat 1)) fun v12 =>
i8 (v12, s5.2.1, ()) h10 d7) (
pLeave d7 h10 fun h13 =>
some (s5.1, h13))) ((.int .i64 (.ofNat 1)), s1.2.2.1, ()) h2 [])) fun j3 =>
pWant v0 false (
pInt .gtr a0 (.int .i64 (.ofNat 16)) fun v14 =>
j3 (v14, v0, a0, ()) h) (
j3 (.undef, v0, a0, ()) h)
theorem S87_eq (c : CV) (a0 : AV) (h : AH) : enterK Try.prog NN P87 c 87 [a0] h = S87 c a0 h := by kernel_rfl
def W87 (c : CV) (l : List AV) (h : AH) : R := match l with | [a0] => S87 c a0 h | _ => none
theorem W87_ok : WOk Try.prog 87 W87 := by
  intro c l h r e
  unfold W87 at e
  split at e
  · exact ⟨P87, by rw [S87_eq]; exact e⟩
  · cases e
/- (*quietus/quietusref7.Levels).Copy -/
def P88 : Pl := (.n none .z (.n none .z (.n none (.n none .z (.n none (.n (some [4, 3, 0]) (.n none .z (.n none (.n none (.r [[4, 3, 0]]) .z) .z)) .z) .z)) .z)))
def S88 (_ : CV) (a0 : AV) (h : AH) : R :=
pNil a0 fun v0 =>
pFieldA v0 0 fun v1 =>
pLoad1 h v1 fun v2 =>
pBuild [(.int .i64 (.ofNat 0)), .nils] [(0, 1, v2)] fun v3 =>
pBox h 101 v3 fun v4 h5 =>
loopC (σ := AV × AV × AV × Unit) NN (fun i9 s6 h7 d8 =>
pNil s6.2.2.1 fun v10 =>
pFieldA v10 1 fun v11 =>
pLoad1 h7 v11 fun v12 =>
pLenS v12 fun v13 =>
pInt .lss s6.1 v13 fun v14 =>
pCond v14 (
joinC (α := AV × AV × AV × Unit → AH → R) (fun s15 h16 =>
pInt .add s15.1 (.int .i64 (.ofNat 1)) fun v18 =>
i9 (v18, s15.2.1, s15.2.2.1, ()) h16 d8) fun j17 =>
pNil s6.2.1 fun v19 =>
pFieldA v19 1 fun v20 =>
pLoad1 h7 v20 fun v21 =>
pNil s6.2.2.1 fun v22 =>
pFieldA v22 1 fun v23 =>
pLoad1 h7 v23 fun v24 =>
pIdxS v24 s6.1 2 fun v25 =>
pFieldA v25 0 fun v26 =>
pLoad1 h7 v26 fun v27 =>
pAppend h7 83 2 .nils v27 fun v28 h29 =>
pNil s6.2.2.1 fun v30 =>
pFieldA v30 1 fun v31 =>
pLoad1 h29 v31 fun v32 =>
pIdxS v32 s6.1 2 fun v33 =>
pFieldA v33 1 fun v34 =>
pLoad1 h29 v34 fun v35 =>
pAppend h29 3 1 .nils v35 fun v36 h37 =>
pBuild [.nils, .nils] [(0, 1, v28), (1, 1, v36)] fun v38 =>
pBuildS h37 96 [.nils, .nils] 1 [(0, 2, v38)] fun v39 h40 =>
pAppend h40 96 2 v21 v39 fun v41 h42 =>
pNil s6.2.1 fun v43 =>
pFieldA v43 1 fun v44 =>
pStore h42 v44 v41 1 fun h45 =>
pChk v34 none v35 h7 h29 h7.nx <|
pChk v31 none v32 h7 h29 h7.nx <|
pChk v20 none v21 h29 h37 h7.nx <|
pChk v20 none v21 h7 h29 h7.nx <|
j17 (s6.1, s6.2.1, s6.2.2.1, ()) h45) (
pLeave d8 h7 fun h46 =>
some (s6.2.1, h46))) ((.int .i64 (.ofNat 0)), v4, a0, ()) h5 []
theorem S88_eq (c : CV) (a0 : AV) (h : AH) : enterK Try.prog NN P88 c 88 [a0] h = S88 c a0 h := by kernel_rfl
def W88 (c : CV) (l : List AV) (h : AH) : R := match l with | [a0] => S88 c a0 h | _ => none
theorem W88_ok : WOk Try.prog 88 W88 := by
  intro c l h r e
  unfold W88 at e
  split at e
  · exact ⟨P88, by rw [S88_eq]; exact e⟩
  · cases e
/- (*quietus/levels.Levels).Depth -/
def P89 : Pl := .z
def S89 (_ : CV) (a0 : AV) (h : AH) : R :=
pNil a0 fun v0 =>
pFieldA v0 1 fun v1 =>
pLoad1 h v1 fun v2 =>
pLenS v2 fun v3 =>
some (v3, h)
theorem S89_eq (c : CV) (a0 : AV) (h : AH) : enterK Try.prog NN P89 c 89 [a0] h = S89 c a0 h := by kernel_rfl
def W89 (c : CV) (l : List AV) (h : AH) : R := match l with | [a0] => S89 c a0 h | _ => none
theorem W89_ok : WOk Try.prog 89 W89 := by
  intro c l h r e
  unfold W89 at e
  split at e
  · exact ⟨P89, by rw [S89_eq]; exact e⟩
  · cases e
/- quietus/levels.fresh -/
def P90 : Pl := .z
def S90 (c : CV) (h : AH) : R :=
pCall c (.fn 76 [] []) [(.int .i64 (.ofNat 96))] h fun v0 h1 =>
pBuild [.nilp, .nils] [(0, 1, v0)] fun v2 =>
pBox h1 122 v2 fun v3 h4 =>
some (v3, h4)
theorem S90_eq (c : CV) (h : AH) : enterK Try.prog NN P90 c 90 [] h = S90 c h := by kernel_rfl
def W90 (c : CV) (l : List AV) (h : AH) : R := match l with | [] => S90 c h | _ => none
theorem W90_ok : WOk Try.prog 90 W90 := by
  intro c l h r e
  unfold W90 at e
  split at e
  · exact ⟨P90, by rw [S90_eq]; exact e⟩
  · cases e
/- slices.Index[[]int,int] -/
def P91 : Pl := (.n none .z (.n none (.n none .z (.n none (.n (some [8, 7, 1, 0]) .z .z) .z)) .z))
def S91 (_ : CV) (a0 a1 : AV) (h : AH) : R :=
pLenS a0 fun v0 =>
loopC (σ := AV × AV × AV × AV × Unit) NN (fun i4 s1 h2 d3 =>
pInt .lss s1.1 s1.2.1 fun v5 =>
pCond v5 (
pIdxS s1.2.2.2.1 s1.1 1 fun v6 =>
pLoad1 h2 v6 fun v7 =>
pInt .eql s1.2.2.1 v7 fun v8 =>
pCond v8 (
pLeave d3 h2 fun h9 =>
some (s1.1, h9)) (
pInt .add s1.1 (.int .i64 (.ofNat 1)) fun v10 =>
i4 (v10, s1.2.1, s1.2.2.1, s1.2.2.2.1, ()) h2 d3)) (
pLeave d3 h2 fun h11 =>
some ((.int .i64 (.negSucc 0)), h11))) ((.int .i64 (.ofNat 0)), v0, a1, a0, ()) h []
theorem S91_eq (c : CV) (a0 a1 : AV) (h : AH) : enterK Try.prog NN P91 c 91 [a0, a1] h = S91 c a0 a1 h := by kernel_rfl
def W91 (c : CV) (l : List AV) (h : AH) : R := match l with | [a0, a1] => S91 c a0 a1 h | _ => none
theorem W91_ok : WOk Try.prog 91 W91 := by
  intro c l h r e
  unfold W91 at e
  split at e
  · exact ⟨P91, by rw [S91_eq]; exact e⟩
  · cases e
/- (*quietus/writes.Writes).Get -/
def P92 : Pl := .z
def S92 (c : CV) (a0 a1 : AV) (h : AH) : R :=
pCall c (.fn 100 [] []) [a0, a1] h fun v0 h1 =>
pInt .geq v0 (.int .i64 (.ofNat 0)) fun v2 =>
pCond v2 (
pNil a0 fun v3 =>
pFieldA v3 1 fun v4 =>
pLoad1 h1 v4 fun v5 =>
pIdxS v5 v0 2 fun v6 =>
pFieldA v6 1 fun v7 =>
pLoad1 h1 v7 fun v8 =>
some ((.tup [v8, (.bool true)]), h1)) (
some ((.tup [(.int .u64 (.ofNat 0)), (.bool false)]), h1))
theorem S92_eq (c : CV) (a0 a1 : AV) (h : AH) : enterK Try.prog NN P92 c 92 [a0, a1] h = S92 c a0 a1 h := by kernel_rfl
def W92 (c : CV) (l : List AV) (h : AH) : R := match l with | [a0, a1] => S92 c a0 a1 h | _ => none
theorem W92_ok : WOk Try.prog 92 W92 := by
  intro c l h r e
  unfold W92 at e
  split at e
  · exact ⟨P92, by rw [S92_eq]; exact e⟩
  · cases e
/- (*quietus/levels.Levels).in -/
def P93 : Pl := .z
def S93 (_ : CV) (a0 : AV) (h : AH) : R :=
pNil a0 fun v0 =>
pFieldA v0 1 fun v1 =>
pLoad1 h v1 fun v2 =>
pNil a0 fun v3 =>
pFieldA v3 1 fun v4 =>
pLoad1 h v4 fun v5 =>
pLenS v5 fun v6 =>
pInt .sub v6 (.int .i64 (.ofNat 1)) fun v7 =>
pIdxS v2 v7 1 fun v8 =>
pLoad1 h v8 fun v9 =>
some (v9, h)
theorem S93_eq (c : CV) (a0 : AV) (h : AH) : enterK Try.prog NN P93 c 93 [a0] h = S93 c a0 h := by kernel_rfl
def W93 (c : CV) (l : List AV) (h : AH) : R := match l with | [a0] => S93 c a0 h | _ => none
theorem W93_ok : WOk Try.prog 93 W93 := by
  intro c l h r e
  unfold W93 at e
  split at e
  · exact ⟨P93, by rw [S93_eq]; exact e⟩
  · cases e
/- (*quietus/levels.Levels).Put -/
def P94 : Pl := (.n none .z (.n none (.n none (.r [[14, 12, 2, 1, 0]]) .z) (.n none .z (.n none (.n none .z (.n none (.r [[32, 29, 7, 2, 1]]) .z)) .z))))
def S94 (c : CV) (a0 a1 a2 : AV) (h : AH) : R :=
pInt .lss a1 (.int .i64 (.ofNat 1)) fun v0 =>
joinC (α := AV × AV × AV × AV × AV × Unit → AH → R) (fun s1 h2 =>
pPick s1.2.1 (.bool true) s1.1 fun v4 =>
pCond v4 (
some ((.int .i64 (.ofNat 2)), h2)) (
pCall c (.fn 93 [] []) [s1.2.2.2.2.1] h2 fun v5 h6 =>
pNil v5 fun v7 =>
pFieldA v7 0 fun v8 =>
pLoad1 h6 v8 fun v9 =>
pCall c (.fn 92 [] []) [v9, s1.2.2.2.1] h6 fun v10 h11 =>
pExtract v10 0 fun _ =>
pExtract v10 1 fun v13 =>
pUn .not v13 fun v14 =>
joinC (α := AV × AV × AV × AV × AV × Unit → AH → R) (fun s15 h16 =>
pPick s15.2.1 s15.1 (.bool false) fun v18 =>
pCond v18 (
some ((.int .i64 (.ofNat 5)), h16)) (
pCall c (.fn 96 [] []) [s15.2.2.1, s15.2.2.2.2.1, s15.2.2.2.1] h16 fun v19 h20 =>
some (v19, h20))) fun j17 =>
pWant v14 true (
pCall c (.fn 101 [] []) [s1.2.2.2.2.1] h11 fun v21 h22 =>
pInt .eql v21 (.int .i64 (.ofNat 0)) fun v23 =>
j17 (v23, v14, v9, s1.2.2.1, s1.2.2.2.1, ()) h22) (
j17 (.undef, v14, v9, s1.2.2.1, s1.2.2.2.1, ()) h11))) fun j3 =>
pWant v0 false (
pInt .geq a1 (.int .i64 (.ofNat 256)) fun v24 =>
j3 (v24, v0, a2, a1, a0, ()) h) (
j3 (.undef, v0, a2, a1, a0, ()) h)
theorem S94_eq (c : CV) (a0 a1 a2 : AV) (h : AH) : enterK Try.prog NN P94 c 94 [a0, a1, a2] h = S94 c a0 a1 a2 h := by kernel_rfl
def W94 (c : CV) (l : List AV) (h : AH) : R := match l with | [a0, a1, a2] => S94 c a0 a1 a2 h | _ => none
theorem W94_ok : WOk Try.prog 94 W94 := by
  intro c l h r e
  unfold W94 at e
  split at e
  · exact ⟨P94, by rw [S94_eq]; exact e⟩
  · cases e
/- slices.Backward[[]*quietus/levels.level,*quietus/levels.level]$1 -/
def P95 : Pl := (.n none .z (.n none (.n (some [3, 1, 0]) .z .z) .z))
def S95 (c : CV) (a0 a1 : AV) (h : AH) : R :=
pLoad1 h a1 fun v0 =>
pLenS v0 fun v1 =>
pInt .sub v1 (.int .i64 (.ofNat 1)) fun v2 =>
loopC (σ := AV × AV × AV × Unit) NN (fun i6 s3 h4 d5 =>
pInt .geq s3.1 (.int .i64 (.ofNat 0)) fun v7 =>
pCond v7 (
pLoad1 h4 s3.2.1 fun v8 =>
pIdxS v8 s3.1 1 fun v9 =>
pLoad1 h4 v9 fun v10 =>
pCall c s3.2.2.1 [s3.1, v10] h4 fun v11 h12 =>
pUn .not v11 fun v13 =>
pCond v13 (
pLeave d5 h12 fun h14 =>
some ((.tup []), h14)) (
pInt .sub s3.1 (.int .i64 (.ofNat 1)) fun v15 =>
i6 (v15, s3.2.1, s3.2.2.1, ()) h12 d5)) (
pLeave d5 h4 fun h16 =>
some ((.tup []), h16))) (v2, a1, a0, ()) h []
theorem S95_eq (c : CV) (a0 a1 : AV) (h : AH) : enterK Try.prog NN P95 c 95 [a0, a1] h = S95 c a0 a1 h := by kernel_rfl
def W95 (c : CV) (l : List AV) (h : AH) : R := match l with | [a0, a1] => S95 c a0 a1 h | _ => none
theorem W95_ok : WOk Try.prog 95 W95 := by
  intro c l h r e
  unfold W95 at e
  split at e
  · exact ⟨P95, by rw [S95_eq]; exact e⟩
  · cases e
/- (*quietus/writes.Writes).Put -/
def P96 : Pl := (.n none .z (.n none (.n none (.r [[12, 10, 2, 1, 0]]) .z) .z))
def S96 (c : CV) (a0 a1 a2 : AV) (h : AH) : R :=
pInt .lss a1 (.int .i64 (.ofNat 1)) fun v0 =>
joinC (α := AV × AV × AV × AV × AV × Unit → AH → R) (fun s1 h2 =>
pPick s1.2.1 (.bool true) s1.1 fun v4 =>
pCond v4 (
some ((.int .i64 (.ofNat 2)), h2)) (
pCall c (.fn 100 [] []) [s1.2.2.2.2.1, s1.2.2.2.1] h2 fun v5 h6 =>
pInt .geq v5 (.int .i64 (.ofNat 0)) fun v7 =>
pCond v7 (
pNil s1.2.2.2.2.1 fun v8 =>
pFieldA v8 1 fun v9 =>
pLoad1 h6 v9 fun v10 =>
pIdxS v10 v5 2 fun v11 =>
pFieldA v11 1 fun v12 =>
pStore h6 v12 s1.2.2.1 1 fun h13 =>
some ((.int .i64 (.ofNat 0)), h13)) (
pNil s1.2.2.2.2.1 fun v14 =>
pFieldA v14 1 fun v15 =>
pLoad1 h6 v15 fun v16 =>
pLenS v16 fun v17 =>
pNil s1.2.2.2.2.1 fun v18 =>
pFieldA v18 0 fun v19 =>
pLoad1 h6 v19 fun v20 =>
pInt .geq v17 v20 fun v21 =>
pCond v21 (
some ((.int .i64 (.ofNat 5)), h6)) (
pNil s1.2.2.2.2.1 fun v22 =>
pFieldA v22 1 fun v23 =>
pLoad1 h6 v23 fun v24 =>
pBuild [(.int .i64 (.ofNat 0)), (.int .u64 (.ofNat 0))] [(0, 1, s1.2.2.2.1), (1, 1, s1.2.2.1)] fun v25 =>
pBuildS h6 83 [(.int .i64 (.ofNat 0)), (.int .u64 (.ofNat 0))] 1 [(0, 2, v25)] fun v26 h27 =>
pAppend h27 83 2 v24 v26 fun v28 h29 =>
pNil s1.2.2.2.2.1 fun v30 =>
pFieldA v30 1 fun v31 =>
pStore h29 v31 v28 1 fun h32 =>
some ((.int .i64 (.ofNat 0)), h32))))) fun j3 =>
pWant v0 false (
pInt .geq a1 (.int .i64 (.ofNat 256)) fun v33 =>
j3 (v33, v0, a2, a1, a0, ()) h) (
j3 (.undef, v0, a2, a1, a0, ()) h)
theorem S96_eq (c : CV) (a0 a1 a2 : AV) (h : AH) : enterK Try.prog NN P96 c 96 [a0, a1, a2] h = S96 c a0 a1 a2 h := by kernel_rfl
def W96 (c : CV) (l : List AV) (h : AH) : R := match l with | [a0, a1, a2] => S96 c a0 a1 a2 h | _ => none
theorem W96_ok : WOk Try.prog 96 W96 := by
  intro c l h r e
  unfold W96 at e
  split at e
  · exact ⟨P96, by rw [S96_eq]; exact e⟩
  · cases e
/- slices.Clone[[]quietus/api.Cell,quietus/api.Cell] -/
def P97 : Pl := .z
def S97 (_ : CV) (a0 : AV) (h : AH) : R :=
pEq .slc false a0 .nils fun v0 =>
pCond v0 (
some (.nils, h)) (
pBuildS h 83 [(.int .i64 (.ofNat 0)), (.int .u64 (.ofNat 0))] 0 [] fun v1 h2 =>
pAppend h2 83 2 v1 a0 fun v3 h4 =>
some (v3, h4))
theorem S97_eq (c : CV) (a0 : AV) (h : AH) : enterK Try.prog NN P97 c 97 [a0] h = S97 c a0 h := by kernel_rfl
def W97 (c : CV) (l : List AV) (h : AH) : R := match l with | [a0] => S97 c a0 h | _ => none
theorem W97_ok : WOk Try.prog 97 W97 := by
  intro c l h r e
  unfold W97 at e
  split at e
  · exact ⟨P97, by rw [S97_eq]; exact e⟩
  · cases e
/- (*quietus/quietusref7.Levels).Take -/
def P98 : Pl := (.n none .z (.n none .z (.n none (.n none .z (.n none (.n (some [6, 5, 1, 0]) .z .z) .z)) .z)))
def S98 (c : CV) (a0 a1 : AV) (h : AH) : R :=
pCall c (.fn 88 [] []) [a0] h fun v0 h1 =>
loopC (σ := AV × AV × AV × AV × Unit) NN (fun i5 s2 h3 d4 =>
pLenS s2.2.2.1 fun v6 =>
pInt .lss s2.1 v6 fun v7 =>
pCond v7 (
pIdxS s2.2.2.1 s2.1 2 fun v8 =>
pFieldA v8 0 fun v9 =>
pLoad1 h3 v9 fun v10 =>
pIdxS s2.2.2.1 s2.1 2 fun v11 =>
pFieldA v11 1 fun v12 =>
pLoad1 h3 v12 fun v13 =>
pCall c (.fn 102 [] []) [s2.2.1, v10, v13] h3 fun v14 h15 =>
pInt .neq v14 (.int .i64 (.ofNat 0)) fun v16 =>
pCond v16 (
pLeave d4 h15 fun h17 =>
some (v14, h17)) (
pInt .add s2.1 (.int .i64 (.ofNat 1)) fun v18 =>
i5 (v18, s2.2.1, s2.2.2.1, s2.2.2.2.1, ()) h15 d4)) (
pNil s2.2.1 fun v19 =>
pFieldA v19 1 fun v20 =>
pLoad1 h3 v20 fun v21 =>
pNil s2.2.2.2.1 fun v22 =>
pFieldA v22 1 fun v23 =>
pStore h3 v23 v21 1 fun h24 =>
pLeave d4 h24 fun h25 =>
some ((.int .i64 (.ofNat 0)), h25))) ((.int .i64 (.ofNat 0)), v0, a1, a0, ()) h1 []
theorem S98_eq (c : CV) (a0 a1 : AV) (h : AH) : enterK Try.prog NN P98 c 98 [a0, a1] h = S98 c a0 a1 h := by kernel_rfl
def W98 (c : CV) (l : List AV) (h : AH) : R := match l with | [a0, a1] => S98 c a0 a1 h | _ => none
theorem W98_ok : WOk Try.prog 98 W98 := by
  intro c l h r e
  unfold W98 at e
  split at e
  · exact ⟨P98, by rw [S98_eq]; exact e⟩
  · cases e
/- (*quietus/quietusref7.Levels).Get -/
def P99 : Pl := (.n none .z (.n none (.n none .z (.n none (.n (some [6, 1, 0]) .z .z) .z)) .z))
def S99 (c : CV) (a0 a1 : AV) (h : AH) : R :=
pNil a0 fun v0 =>
pFieldA v0 1 fun v1 =>
pLoad1 h v1 fun v2 =>
pLenS v2 fun v3 =>
pInt .sub v3 (.int .i64 (.ofNat 1)) fun v4 =>
loopC (σ := AV × AV × AV × Unit) NN (fun i8 s5 h6 d7 =>
pInt .geq s5.1 (.int .i64 (.ofNat 0)) fun v9 =>
pCond v9 (
pNil s5.2.2.1 fun v10 =>
pFieldA v10 1 fun v11 =>
pLoad1 h6 v11 fun v12 =>
pIdxS v12 s5.1 2 fun v13 =>
pFieldA v13 0 fun v14 =>
pLoad1 h6 v14 fun v15 =>
pCall c (.fn 65 [] []) [v15, s5.2.1] h6 fun v16 h17 =>
pInt .geq v16 (.int .i64 (.ofNat 0)) fun v18 =>
pCond v18 (
pNil s5.2.2.1 fun v19 =>
pFieldA v19 1 fun v20 =>
pLoad1 h17 v20 fun v21 =>
pIdxS v21 s5.1 2 fun v22 =>
pFieldA v22 0 fun v23 =>
pLoad1 h17 v23 fun v24 =>
pIdxS v24 v16 2 fun v25 =>
pFieldA v25 1 fun v26 =>
pLoad1 h17 v26 fun v27 =>
pLeave d7 h17 fun h28 =>
some ((.tup [v27, (.bool true)]), h28)) (
pInt .sub s5.1 (.int .i64 (.ofNat 1)) fun v29 =>
i8 (v29, s5.2.1, s5.2.2.1, ()) h17 d7)) (
pLeave d7 h6 fun h30 =>
some ((.tup [(.int .u64 (.ofNat 0)), (.bool false)]), h30))) (v4, a1, a0, ()) h []
theorem S99_eq (c : CV) (a0 a1 : AV) (h : AH) : enterK Try.prog NN P99 c 99 [a0, a1] h = S99 c a0 a1 h := by kernel_rfl
def W99 (c : CV) (l : List AV) (h : AH) : R := match l with | [a0, a1] => S99 c a0 a1 h | _ => none
theorem W99_ok : WOk Try.prog 99 W99 := by
  intro c l h r e
  unfold W99 at e
  split at e
  · exact ⟨P99, by rw [S99_eq]; exact e⟩
  · cases e
/- (*quietus/writes.Writes).find -/
def P100 : Pl := .z
def S100 (c : CV) (a0 a1 : AV) (h : AH) : R :=
pBox h 3 a1 fun v0 h1 =>
pNil a0 fun v2 =>
pFieldA v2 1 fun v3 =>
pLoad1 h1 v3 fun v4 =>
pCall c (.fn 103 [] []) [v4, (.fn 104 [] [v0])] h1 fun v5 h6 =>
some (v5, h6)
theorem S100_eq (c : CV) (a0 a1 : AV) (h : AH) : enterK Try.prog NN P100 c 100 [a0, a1] h = S100 c a0 a1 h := by kernel_rfl
def W100 (c : CV) (l : List AV) (h : AH) : R := match l with | [a0, a1] => S100 c a0 a1 h | _ => none
theorem W100_ok : WOk Try.prog 100 W100 := by
  intro c l h r e
  unfold W100 at e
  split at e
  · exact ⟨P100, by rw [S100_eq]; exact e⟩
  · cases e
/- (*quietus/levels.Levels).Room -/
def P101 : Pl := (.n none .z (.n none .z (.n none (.n none .z (.n none (.n (some [15, 14, 13, 3]) .z .z) .z)) .z)))
def S101 (c : CV) (a0 : AV) (h : AH) : R :=
pNil a0 fun v0 =>
pFieldA v0 0 fun v1 =>
pLoad1 h v1 fun v2 =>
pNil a0 fun v3 =>
pFieldA v3 1 fun v4 =>
pLoad1 h v4 fun v5 =>
pLenS v5 fun v6 =>
loopC (σ := AV × AV × AV × AV × Unit) NN (fun i10 s7 h8 d9 =>
pInt .lss s7.1 s7.2.1 fun v11 =>
pCond v11 (
pIdxS s7.2.2.1 s7.1 1 fun v12 =>
pLoad1 h8 v12 fun v13 =>
pNil v13 fun v14 =>
pFieldA v14 0 fun v15 =>
pLoad1 h8 v15 fun v16 =>
pCall c (.fn 105 [] []) [v16] h8 fun v17 h18 =>
pInt .sub s7.2.2.2.1 v17 fun v19 =>
pInt .add s7.1 (.int .i64 (.ofNat 1)) fun v20 =>
i10 (v20, s7.2.1, s7.2.2.1, v19, ()) h18 d9) (
pLeave d9 h8 fun h21 =>
some (s7.2.2.2.1, h21))) ((.int .i64 (.ofNat 0)), v6, v5, v2, ()) h []
theorem S101_eq (c : CV) (a0 : AV) (h : AH) : enterK Try.prog NN P101 c 101 [a0] h = S101 c a0 h := by kernel_rfl
def W101 (c : CV) (l : List AV) (h : AH) : R := match l with | [a0] => S101 c a0 h | _ => none
theorem W101_ok : WOk Try.prog 101 W101 := by
  intro c l h r e
  unfold W101 at e
  split at e
  · exact ⟨P101, by rw [S101_eq]; exact e⟩
  · cases e
/- (*quietus/quietusref7.Levels).Put -/
def P102 : Pl := (.n none .z (.n none (.n none (.r [[12, 10, 2, 1, 0]]) .z) (.n none .z (.n none (.n none (.r [[34, 31, 7, 2, 1, 0]]) .z) (.n none (.r [[]]) .z)))))
def S102 (c : CV) (a0 a1 a2 : AV) (h : AH) : R :=
pInt .lss a1 (.int .i64 (.ofNat 1)) fun v0 =>
joinC (α := AV × AV × AV × AV × AV × Unit → AH → R) (fun s1 h2 =>
pPick s1.2.1 (.bool true) s1.1 fun v4 =>
pCond v4 (
some ((.int .i64 (.ofNat 2)), h2)) (
pNil s1.2.2.2.2.1 fun v5 =>
pFieldA v5 1 fun v6 =>
pLoad1 h2 v6 fun v7 =>
pLenS v7 fun v8 =>
pInt .sub v8 (.int .i64 (.ofNat 1)) fun v9 =>
pNil s1.2.2.2.2.1 fun v10 =>
pFieldA v10 1 fun v11 =>
pLoad1 h2 v11 fun v12 =>
pIdxS v12 v9 2 fun v13 =>
pFieldA v13 0 fun v14 =>
pLoad1 h2 v14 fun v15 =>
pCall c (.fn 65 [] []) [v15, s1.2.2.2.1] h2 fun v16 h17 =>
pInt .lss v16 (.int .i64 (.ofNat 0)) fun v18 =>
joinC (α := AV × AV × AV × AV × AV × AV × Unit → AH → R) (fun s19 h20 =>
pPick s19.2.1 s19.1 (.bool false) fun v22 =>
pCond v22 (
some ((.int .i64 (.ofNat 5)), h20)) (
joinC (α := Unit → AH → R) (fun _ h24 =>
some ((.int .i64 (.ofNat 0)), h24)) fun j25 =>
pNil s19.2.2.2.2.2.1 fun v26 =>
pFieldA v26 1 fun v27 =>
pLoad1 h20 v27 fun v28 =>
pNil s19.2.2.2.2.2.1 fun v29 =>
pFieldA v29 1 fun v30 =>
pLoad1 h20 v30 fun v31 =>
pIdxS v31 s19.2.2.1 2 fun v32 =>
pFieldA v32 0 fun v33 =>
pLoad1 h20 v33 fun v34 =>
pCall c (.fn 85 [] []) [v34, s19.2.2.2.2.1, s19.2.2.2.1] h20 fun v35 h36 =>
pIdxS v28 s19.2.2.1 2 fun v37 =>
pFieldA v37 0 fun v38 =>
pStore h36 v38 v35 1 fun h39 =>
pChk v27 none v28 h20 h36 h20.nx <|
j25 (()) h39)) fun j21 =>
pWant v18 true (
pCall c (.fn 106 [] []) [s1.2.2.2.2.1] h17 fun v40 h41 =>
pInt .leq v40 (.int .i64 (.ofNat 0)) fun v42 =>
j21 (v42, v18, v9, s1.2.2.1, s1.2.2.2.1, s1.2.2.2.2.1, ()) h41) (
j21 (.undef, v18, v9, s1.2.2.1, s1.2.2.2.1, s1.2.2.2.2.1, ()) h17))) fun j3 =>
pWant v0 false (
pInt .geq a1 (.int .i64 (.ofNat 256)) fun v43 =>
j3 (v43, v0, a2, a1, a0, ()) h) (
j3 (.undef, v0, a2, a1, a0, ()) h)
theorem S102_eq (c : CV) (a0 a1 a2 : AV) (h : AH) : enterK Try.prog NN P102 c 102 [a0, a1, a2] h = S102 c a0 a1 a2 h := by kernel_rfl
def W102 (c : CV) (l : List AV) (h : AH) : R := match l with | [a0, a1, a2] => S102 c a0 a1 a2 h | _ => none
theorem W102_ok : WOk Try.prog 102 W102 := by
  intro c l h r e
  unfold W102 at e
  split at e
  · exact ⟨P102, by rw [S102_eq]; exact e⟩
  · cases e
/- slices.IndexFunc[[]quietus/api.Cell,quietus/api.Cell] -/
def P103 : Pl := (.n none .z (.n none (.n none .z (.n none (.n (some [8, 7, 1, 0]) .z .z) .z)) .z))
def S103 (c : CV) (a0 a1 : AV) (h : AH) : R :=
pLenS a0 fun v0 =>
loopC (σ := AV × AV × AV × AV × Unit) NN (fun i4 s1 h2 d3 =>
pInt .lss s1.1 s1.2.1 fun v5 =>
pCond v5 (
pIdxS s1.2.2.2.1 s1.1 2 fun v6 =>
pLoadN h2 v6 2 fun v7 =>
pCall c s1.2.2.1 [v7] h2 fun v8 h9 =>
pCond v8 (
pLeave d3 h9 fun h10 =>
some (s1.1, h10)) (
pInt .add s1.1 (.int .i64 (.ofNat 1)) fun v11 =>
i4 (v11, s1.2.1, s1.2.2.1, s1.2.2.2.1, ()) h9 d3)) (
pLeave d3 h2 fun h12 =>
some ((.int .i64 (.negSucc 0)), h12))) ((.int .i64 (.ofNat 0)), v0, a1, a0, ()) h []
theorem S103_eq (c : CV) (a0 a1 : AV) (h : AH) : enterK Try.prog NN P103 c 103 [a0, a1] h = S103 c a0 a1 h := by kernel_rfl
def W103 (c : CV) (l : List AV) (h : AH) : R := match l with | [a0, a1] => S103 c a0 a1 h | _ => none
theorem W103_ok : WOk Try.prog 103 W103 := by
  intro c l h r e
  unfold W103 at e
  split at e
  · exact ⟨P103, by rw [S103_eq]; exact e⟩
  · cases e
/- (*quietus/writes.Writes).find$1 -/
def P104 : Pl := .z
def S104 (_ : CV) (a0 a1 : AV) (h : AH) : R :=
pBox h 83 a0 fun v0 h1 =>
pFieldA v0 0 fun v2 =>
pLoad1 h1 v2 fun v3 =>
pLoad1 h1 a1 fun v4 =>
pInt .eql v3 v4 fun v5 =>
some (v5, h1)
theorem S104_eq (c : CV) (a0 a1 : AV) (h : AH) : enterK Try.prog NN P104 c 104 [a0, a1] h = S104 c a0 a1 h := by kernel_rfl
def W104 (c : CV) (l : List AV) (h : AH) : R := match l with | [a0, a1] => S104 c a0 a1 h | _ => none
theorem W104_ok : WOk Try.prog 104 W104 := by
  intro c l h r e
  unfold W104 at e
  split at e
  · exact ⟨P104, by rw [S104_eq]; exact e⟩
  · cases e
/- (*quietus/writes.Writes).Len -/
def P105 : Pl := .z
def S105 (_ : CV) (a0 : AV) (h : AH) : R :=
pNil a0 fun v0 =>
pFieldA v0 1 fun v1 =>
pLoad1 h v1 fun v2 =>
pLenS v2 fun v3 =>
some (v3, h)
theorem S105_eq (c : CV) (a0 : AV) (h : AH) : enterK Try.prog NN P105 c 105 [a0] h = S105 c a0 h := by kernel_rfl
def W105 (c : CV) (l : List AV) (h : AH) : R := match l with | [a0] => S105 c a0 h | _ => none
theorem W105_ok : WOk Try.prog 105 W105 := by
  intro c l h r e
  unfold W105 at e
  split at e
  · exact ⟨P105, by rw [S105_eq]; exact e⟩
  · cases e
/- (*quietus/quietusref7.Levels).Room -/
def P106 : Pl := (.n none .z (.n none .z (.n none (.n none .z (.n none (.n (some [4, 3, 0]) .z .z) .z)) .z)))
def S106 (_ : CV) (a0 : AV) (h : AH) : R :=
pNil a0 fun v0 =>
pFieldA v0 0 fun v1 =>
pLoad1 h v1 fun v2 =>
loopC (σ := AV × AV × AV × Unit) NN (fun i6 s3 h4 d5 =>
pNil s3.2.2.1 fun v7 =>
pFieldA v7 1 fun v8 =>
pLoad1 h4 v8 fun v9 =>
pLenS v9 fun v10 =>
pInt .lss s3.1 v10 fun v11 =>
pCond v11 (
pNil s3.2.2.1 fun v12 =>
pFieldA v12 1 fun v13 =>
pLoad1 h4 v13 fun v14 =>
pIdxS v14 s3.1 2 fun v15 =>
pFieldA v15 0 fun v16 =>
pLoad1 h4 v16 fun v17 =>
pLenS v17 fun v18 =>
pInt .sub s3.2.1 v18 fun v19 =>
pInt .add s3.1 (.int .i64 (.ofNat 1)) fun v20 =>
i6 (v20, v19, s3.2.2.1, ()) h4 d5) (
pLeave d5 h4 fun h21 =>
some (s3.2.1, h21))) ((.int .i64 (.ofNat 0)), v2, a0, ()) h []
theorem S106_eq (c : CV) (a0 : AV) (h : AH) : enterK Try.prog NN P106 c 106 [a0] h = S106 c a0 h := by kernel_rfl
def W106 (c : CV) (l : List AV) (h : AH) : R := match l with | [a0] => S106 c a0 h | _ => none
theorem W106_ok : WOk Try.prog 106 W106 := by
  intro c l h r e
  unfold W106 at e
  split at e
  · exact ⟨P106, by rw [S106_eq]; exact e⟩
  · cases e
/- (*quietus/levels.Levels).Cells: a round -/
def Q0 : Pl := (.n none .z .z)
def B0 (c : CV) (l : Nat) (v0 _ a1 : AV) (h : AH) : R :=
pBegin h l fun h100 =>
pCall c (.fn 76 [] []) [(.int .i64 (.ofNat 96))] h100 fun v101 h102 =>
pNil a1 fun v103 =>
pFieldA v103 0 fun v104 =>
pLoad1 h102 v104 fun v105 =>
pCall c (.fn 78 [] []) [v105] h102 fun v106 h107 =>
pCall c (.fn 77 [] []) [v101, v106] h107 fun _ h109 =>
pLoad1 h109 v0 fun v110 =>
pCall c (.fn 77 [] []) [v101, v110] h109 fun _ h112 =>
pCall c (.fn 78 [] []) [v101] h112 fun v113 h114 =>
pStore h114 v0 v113 1 fun h115 =>
pEndRound h115 l none
theorem B0_eq (c : CV) (l : Nat) (v0 a0 a1 : AV) (h : AH) : roundK Try.prog NN Q0 c 48 [1, 1, 0, 1, 0] [3] l [v0] [a0, a1] h = B0 c l v0 a0 a1 h := by kernel_rfl
def V0 (c : CV) (l : Nat) (x y : List AV) (h : AH) : R := match x, y with | [v0], [a0, a1] => B0 c l v0 a0 a1 h | _, _ => none
theorem V0_ok : VOk Try.prog 48 [1, 1, 0, 1, 0] [3] V0 := by
  intro c l x y h r e
  unfold V0 at e
  split at e
  · exact ⟨Q0, by rw [B0_eq]; exact e⟩
  · cases e
/- (*quietus/levels.Levels).Get: a round -/
def Q1 : Pl := (.n none .z .z)
def B1 (c : CV) (l : Nat) (v0 v1 v2 _ a1 : AV) (h : AH) : R :=
pBegin h l fun h100 =>
pNil a1 fun v101 =>
pFieldA v101 0 fun v102 =>
pLoad1 h100 v102 fun v103 =>
pLoad1 h100 v2 fun v104 =>
pCall c (.fn 92 [] []) [v103, v104] h100 fun v105 h106 =>
pExtract v105 0 fun v107 =>
pExtract v105 1 fun v108 =>
pCond v108 (
pStore h106 v1 v107 1 fun h109 =>
pStore h109 v0 (.bool true) 1 fun h110 =>
pEndRound h110 l (some .ret)) (
pEndRound h106 l none)
theorem B1_eq (c : CV) (l : Nat) (v0 v1 v2 a0 a1 : AV) (h : AH) : roundK Try.prog NN Q1 c 72 [1, 0, 1, 0] [5, 4, 3] l [v0, v1, v2] [a0, a1] h = B1 c l v0 v1 v2 a0 a1 h := by kernel_rfl
def V1 (c : CV) (l : Nat) (x y : List AV) (h : AH) : R := match x, y with | [v0, v1, v2], [a0, a1] => B1 c l v0 v1 v2 a0 a1 h | _, _ => none
theorem V1_ok : VOk Try.prog 72 [1, 0, 1, 0] [5, 4, 3] V1 := by
  intro c l x y h r e
  unfold V1 at e
  split at e
  · exact ⟨Q1, by rw [B1_eq]; exact e⟩
  · cases e
end
end Go.Proofs.Ytaepnpodenmmoaa
