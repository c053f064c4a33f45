/- Printed by a program of mine: the bodies of the program's functions aa terms of the primitives of the abstract executor, each shown equal by the kernel. -/
import Derived.Test.YtaepnpodenmmoaaProg
import Derived.Test.YtaepnpodenmmoaaAe1
import Derived.KernelRfl
namespace Go.Proofs.Ytaepnpodenmmoaa
open Go Go.Ae
set_option maxRecDepth 100000
noncomputable section
/- quietus/quietuslaw11.ArenaRuns -/
def P3 : Pl := (.n none .z (.n none .z (.n none .z (.n none .z (.n none .z (.n none .z (.n none .z (.n none .z (.n none (.r [[35, 33, 8, 7, 6, 5, 4], [39, 37, 8, 7, 6, 5], [43, 41, 8, 7, 6], [47, 45, 8, 7], [51, 49, 8], [56, 53, 8], [62, 58], [66, 64], [70, 68], [75, 72]]) .z)))))))))
def S3 (c : CV) (h : AH) : R :=
pCall c (.fn 11 [] []) [(.int .i64 (.ofNat 40))] h fun v0 h1 =>
pCall c (.fn 10 [] []) [v0, (.int .i64 (.ofNat 20))] h1 fun v2 h3 =>
pEq .ptr false v2 .nilp fun v4 =>
pCond v4 (
some ((.bool false), h3)) (
pCall c (.fn 12 [] []) [v2, (.int .i64 (.ofNat 3))] h3 fun v5 h6 =>
pExtract v5 0 fun v7 =>
pExtract v5 1 fun v8 =>
pCall c (.fn 13 [] []) [v2, v7] h6 fun v9 h10 =>
pCall c (.fn 14 [] []) [v2, v7] h10 fun v11 h12 =>
pCall c (.fn 12 [] []) [v2, (.int .i64 (.ofNat 4))] h12 fun v13 h14 =>
pExtract v13 0 fun v15 =>
pExtract v13 1 fun v16 =>
pCall c (.fn 15 [] []) [v2] h14 fun v17 h18 =>
pInt .eql v8 (.int .i64 (.ofNat 0)) fun v19 =>
joinC (α := AV × AV × AV × AV × AV × AV × AV × Unit → AH → R) (fun s20 h21 =>
pPick s20.2.1 s20.1 (.bool false) fun v23 =>
joinC (α := AV × AV × AV × AV × AV × AV × Unit → AH → R) (fun s24 h25 =>
pPick s24.2.1 s24.1 (.bool false) fun v27 =>
joinC (α := AV × AV × AV × AV × AV × Unit → AH → R) (fun s28 h29 =>
pPick s28.2.1 s28.1 (.bool false) fun v31 =>
joinC (α := AV × AV × AV × AV × Unit → AH → R) (fun s32 h33 =>
pPick s32.2.1 s32.1 (.bool false) fun v35 =>
joinC (α := AV × AV × AV × Unit → AH → R) (fun s36 h37 =>
pPick s36.2.1 s36.1 (.bool false) fun v39 =>
joinC (α := AV × AV × AV × Unit → AH → R) (fun s40 h41 =>
pPick s40.2.1 s40.1 (.bool false) fun v43 =>
joinC (α := AV × AV × Unit → AH → R) (fun s44 h45 =>
pPick s44.2.1 s44.1 (.bool false) fun v47 =>
joinC (α := AV × AV × Unit → AH → R) (fun s48 h49 =>
pPick s48.2.1 s48.1 (.bool false) fun v51 =>
joinC (α := AV × AV × Unit → AH → R) (fun s52 h53 =>
pPick s52.2.1 s52.1 (.bool false) fun v55 =>
joinC (α := AV × AV × Unit → AH → R) (fun s56 h57 =>
pPick s56.2.1 s56.1 (.bool false) fun v59 =>
some (v59, h57)) fun j58 =>
pWant v55 true (
pCall c (.fn 11 [] []) [(.int .i64 (.ofNat 40))] h53 fun v60 h61 =>
pLenS v60 fun v62 =>
pInt .eql v62 (.int .i64 (.ofNat 40)) fun v63 =>
j58 (v63, v55, ()) h61) (
j58 (.undef, v55, ()) h53)) fun j54 =>
pWant v51 true (
pCall c (.fn 17 [] []) [(.int .i64 (.ofNat 2))] h49 fun v64 h65 =>
pInt .eql v64 (.int .i64 (.ofNat 4)) fun v66 =>
j54 (v66, v51, ()) h65) (
j54 (.undef, v51, ()) h49)) fun j50 =>
pWant v47 true (
pCall c (.fn 16 [] []) [(.int .i64 (.ofNat 3))] h45 fun v67 h68 =>
pInt .eql v67 (.int .i64 (.ofNat 2)) fun v69 =>
j50 (v69, v47, ()) h68) (
j50 (.undef, v47, ()) h45)) fun j46 =>
pWant v43 true (
pIdxS s40.2.2.1 (.int .i64 (.ofNat 0)) 1 fun v70 =>
pLoad1 h41 v70 fun v71 =>
pInt .eql v71 (.int .i64 (.ofNat 15)) fun v72 =>
j46 (v72, v43, ()) h41) (
j46 (.undef, v43, ()) h41)) fun j42 =>
pWant v39 true (
pLenS s36.2.2.1 fun v73 =>
pInt .eql v73 (.int .i64 (.ofNat 1)) fun v74 =>
j42 (v74, v39, s36.2.2.1, ()) h37) (
j42 (.undef, v39, s36.2.2.1, ()) h37)) fun j38 =>
pWant v35 true (
pInt .eql s32.2.2.2.1 (.int .i64 (.ofNat 0)) fun v75 =>
j38 (v75, v35, s32.2.2.1, ()) h33) (
j38 (.undef, v35, s32.2.2.1, ()) h33)) fun j34 =>
pWant v31 true (
pInt .eql s28.2.2.2.2.1 (.int .i64 (.ofNat 15)) fun v76 =>
j34 (v76, v31, s28.2.2.1, s28.2.2.2.1, ()) h29) (
j34 (.undef, v31, s28.2.2.1, s28.2.2.2.1, ()) h29)) fun j30 =>
pWant v27 true (
pInt .eql s24.2.2.2.2.2.1 (.int .i64 (.ofNat 0)) fun v77 =>
j30 (v77, v27, s24.2.2.1, s24.2.2.2.1, s24.2.2.2.2.1, ()) h25) (
j30 (.undef, v27, s24.2.2.1, s24.2.2.2.1, s24.2.2.2.2.1, ()) h25)) fun j26 =>
pWant v23 true (
pInt .eql s20.2.2.2.2.2.2.1 (.int .i64 (.ofNat 0)) fun v78 =>
j26 (v78, v23, s20.2.2.1, s20.2.2.2.1, s20.2.2.2.2.1, s20.2.2.2.2.2.1, ()) h21) (
j26 (.undef, v23, s20.2.2.1, s20.2.2.2.1, s20.2.2.2.2.1, s20.2.2.2.2.2.1, ()) h21)) fun j22 =>
pWant v19 true (
pInt .eql v7 (.int .i64 (.ofNat 15)) fun v79 =>
j22 (v79, v19, v17, v16, v15, v11, v9, ()) h18) (
j22 (.undef, v19, v17, v16, v15, v11, v9, ()) h18))
theorem S3_eq (c : CV) (h : AH) : enterK Try.prog NN P3 c 3 [] h = S3 c h := by kernel_rfl
def W3 (c : CV) (l : List AV) (h : AH) : R := match l with | [] => S3 c h | _ => none
theorem W3_ok : WOk Try.prog 3 W3 := by
  intro c l h r e
  unfold W3 at e
  split at e
  · exact ⟨P3, by rw [S3_eq]; exact e⟩
  · cases e
/- quietus/quietuslaw11.ArenaClasses -/
def P4 : Pl := (.n none .z (.n none .z (.n none .z (.n none (.n none (.r [[12, 10, 3, 0]]) (.n none (.n none (.r [[19, 16, 0], [21, 19, 16, 0], [23, 16, 0], [26, 23, 16], [27, 16]]) .z) .z)) (.n none (.r [[33, 31, 3, 0], [39, 35, 3, 0], [44, 41, 3, 0], [49, 44, 41, 3], [50, 41, 3], [59, 52]]) .z)))))
def S4 (c : CV) (a0 : AV) (h : AH) : R :=
pCall c (.fn 3 [] []) [] h fun v0 h1 =>
pUn .not v0 fun v2 =>
pCond v2 (
some ((.bool false), h1)) (
pCall c (.fn 16 [] []) [a0] h1 fun v3 h4 =>
pInt .lss a0 (.int .i64 (.ofNat 1)) fun v5 =>
joinC (α := AV × AV × AV × AV × Unit → AH → R) (fun s6 h7 =>
pPick s6.2.1 (.bool true) s6.1 fun v9 =>
pCond v9 (
pInt .eql s6.2.2.1 (.int .i64 (.ofNat 0)) fun v10 =>
joinC (α := AV × AV × AV × Unit → AH → R) (fun s11 h12 =>
joinC (α := AV × AV × AV × AV × Unit → AH → R) (fun s14 h15 =>
joinC (α := AV × AV × AV × Unit → AH → R) (fun s17 h18 =>
joinC (α := AV × AV × AV × Unit → AH → R) (fun s20 h21 =>
joinC (α := AV × AV × Unit → AH → R) (fun s23 h24 =>
pPick s23.2.1 s23.1 (.bool false) fun v26 =>
some (v26, h24)) fun j25 =>
pWant s20.2.2.1 true (
pPick s20.2.1 (.bool true) s20.1 fun v27 =>
j25 (v27, s20.2.2.1, ()) h21) (
j25 (.undef, s20.2.2.1, ()) h21)) fun j22 =>
pWant s17.1 false (
pCall c (.fn 17 [] []) [s17.2.2.1] h18 fun v28 h29 =>
pInt .eql v28 (.int .i64 (.ofNat 0)) fun v30 =>
j22 (v30, s17.1, s17.2.1, ()) h29) (
j22 (.undef, s17.1, s17.2.1, ()) h18)) fun j19 =>
pWant s14.2.2.1 true (
pPick s14.2.1 s14.1 (.bool false) fun v31 =>
j19 (v31, s14.2.2.1, s14.2.2.2.1, ()) h15) (
j19 (.undef, s14.2.2.1, s14.2.2.2.1, ()) h15)) fun j16 =>
pWant s11.1 true (
pInt .leq s11.2.2.1 (.int .i64 (.ofNat 4)) fun v32 =>
j16 (v32, s11.1, s11.2.1, s11.2.2.1, ()) h12) (
j16 (.undef, s11.1, s11.2.1, s11.2.2.1, ()) h12)) fun j13 =>
pWant v10 true (
pInt .geq s6.2.2.2.1 (.int .i64 (.ofNat 1)) fun v33 =>
j13 (v33, v10, s6.2.2.2.1, ()) h7) (
j13 (.undef, v10, s6.2.2.2.1, ()) h7)) (
pInt .geq s6.2.2.1 (.int .i64 (.ofNat 1)) fun v34 =>
joinC (α := AV × AV × AV × AV × Unit → AH → R) (fun s35 h36 =>
pPick s35.2.1 s35.1 (.bool false) fun v38 =>
joinC (α := AV × AV × AV × AV × Unit → AH → R) (fun s39 h40 =>
pPick s39.2.1 s39.1 (.bool false) fun v42 =>
joinC (α := AV × AV × AV × AV × Unit → AH → R) (fun s43 h44 =>
joinC (α := AV × AV × AV × AV × Unit → AH → R) (fun s46 h47 =>
joinC (α := AV × AV × AV × Unit → AH → R) (fun s49 h50 =>
pPick s49.2.1 s49.1 (.bool false) fun v52 =>
joinC (α := AV × AV × Unit → AH → R) (fun s53 h54 =>
pPick s53.2.1 s53.1 (.bool false) fun v56 =>
some (v56, h54)) fun j55 =>
pWant v52 true (
pCall c (.fn 17 [] []) [s49.2.2.1] h50 fun v57 h58 =>
pInt .sub s49.2.2.1 (.int .i64 (.ofNat 1)) fun v59 =>
pConvI .u64 v59 fun v60 =>
pShift .shl (.int .i64 (.ofNat 2)) v60 fun v61 =>
pInt .eql v57 v61 fun v62 =>
j55 (v62, v52, ()) h58) (
j55 (.undef, v52, ()) h50)) fun j51 =>
pWant s46.2.2.1 true (
pPick s46.2.1 (.bool true) s46.1 fun v63 =>
j51 (v63, s46.2.2.1, s46.2.2.2.1, ()) h47) (
j51 (.undef, s46.2.2.1, s46.2.2.2.1, ()) h47)) fun j48 =>
pWant s43.1 false (
pInt .sub s43.2.2.1 (.int .i64 (.ofNat 1)) fun v64 =>
pCall c (.fn 17 [] []) [v64] h44 fun v65 h66 =>
pInt .lss v65 s43.2.2.2.1 fun v67 =>
j48 (v67, s43.1, s43.2.1, s43.2.2.1, ()) h66) (
j48 (.undef, s43.1, s43.2.1, s43.2.2.1, ()) h44)) fun j45 =>
pWant v42 true (
pInt .eql s39.2.2.1 (.int .i64 (.ofNat 1)) fun v68 =>
j45 (v68, v42, s39.2.2.1, s39.2.2.2.1, ()) h40) (
j45 (.undef, v42, s39.2.2.1, s39.2.2.2.1, ()) h40)) fun j41 =>
pWant v38 true (
pCall c (.fn 17 [] []) [s35.2.2.1] h36 fun v69 h70 =>
pInt .geq v69 s35.2.2.2.1 fun v71 =>
j41 (v71, v38, s35.2.2.1, s35.2.2.2.1, ()) h70) (
j41 (.undef, v38, s35.2.2.1, s35.2.2.2.1, ()) h36)) fun j37 =>
pWant v34 true (
pInt .leq s6.2.2.1 (.int .i64 (.ofNat 4)) fun v72 =>
j37 (v72, v34, s6.2.2.1, s6.2.2.2.1, ()) h7) (
j37 (.undef, v34, s6.2.2.1, s6.2.2.2.1, ()) h7))) fun j8 =>
pWant v5 false (
pInt .gtr a0 (.int .i64 (.ofNat 16)) fun v73 =>
j8 (v73, v5, v3, a0, ()) h4) (
j8 (.undef, v5, v3, a0, ()) h4))
theorem S4_eq (c : CV) (a0 : AV) (h : AH) : enterK Try.prog NN P4 c 4 [a0] h = S4 c a0 h := by kernel_rfl
def W4 (c : CV) (l : List AV) (h : AH) : R := match l with | [a0] => S4 c a0 h | _ => none
theorem W4_ok : WOk Try.prog 4 W4 := by
  intro c l h r e
  unfold W4 at e
  split at e
  · exact ⟨P4, by rw [S4_eq]; exact e⟩
  · cases e
/- quietus/view.Whole -/
def P10 : Pl := (.n none .z (.n none .z (.n none (.n none .z (.n none (.n (some [6, 5, 0]) (.n none .z (.n none (.n none (.n none .z (.n (some [7, 6, 5, 0]) .z .z)) .z) .z)) .z) .z)) .z)))
def S10 (c : CV) (a0 a1 : AV) (h : AH) : R :=
pLenS a0 fun v0 =>
pCall c (.fn 26 [] []) [v0, a1] h fun v1 h2 =>
loopC (σ := AV × AV × AV × Unit) NN (fun i6 s3 h4 d5 =>
pCall c (.fn 39 [] []) [s3.2.1] h4 fun v7 h8 =>
pInt .lss s3.1 v7 fun v9 =>
pCond v9 (
joinC (α := AV × AV × AV × AV × Unit → AH → List Nat → R) (fun s10 h11 d12 =>
pCall c (.fn 29 [] []) [s10.2.2.1, s10.2.1, s10.1] h11 fun _ h15 =>
pInt .add s10.2.1 (.int .i64 (.ofNat 1)) fun v16 =>
i6 (v16, s10.2.2.1, s10.2.2.2.1, ()) h15 d12) fun j13 =>
pLenS s3.2.2.1 fun v17 =>
pInt .lss s3.1 v17 fun v18 =>
pCond v18 (
pIdxS s3.2.2.1 s3.1 1 fun v19 =>
pLoad1 h8 v19 fun v20 =>
j13 (v20, s3.1, s3.2.1, s3.2.2.1, ()) h8 d5) (
j13 ((.int .u64 (.ofNat 0)), s3.1, s3.2.1, s3.2.2.1, ()) h8 d5)) (
pLeave d5 h8 fun h21 =>
some (s3.2.1, h21))) ((.int .i64 (.ofNat 1)), v1, a0, ()) h2 []
theorem S10_eq (c : CV) (a0 a1 : AV) (h : AH) : enterK Try.prog NN P10 c 10 [a0, a1] h = S10 c a0 a1 h := by kernel_rfl
def W10 (c : CV) (l : List AV) (h : AH) : R := match l with | [a0, a1] => S10 c a0 a1 h | _ => none
theorem W10_ok : WOk Try.prog 10 W10 := by
  intro c l h r e
  unfold W10 at e
  split at e
  · exact ⟨P10, by rw [S10_eq]; exact e⟩
  · cases e
/- quietus/arena.Fresh -/
def P11 : Pl := .z
def S11 (_ : CV) (a0 : AV) (h : AH) : R :=
pMM false [a0, (.int .i64 (.ofNat 256))] fun v0 =>
pMM true [(.int .i64 (.ofNat 32)), v0] fun v1 =>
pMake h 43 [(.int .u64 (.ofNat 0))] v1 v1 fun v2 h3 =>
pIdxS v2 (.int .i64 (.ofNat 5)) 1 fun v4 =>
pStore h3 v4 (.int .u64 (.ofNat 14)) 1 fun h5 =>
some (v2, h5)
theorem S11_eq (c : CV) (a0 : AV) (h : AH) : enterK Try.prog NN P11 c 11 [a0] h = S11 c a0 h := by kernel_rfl
def W11 (c : CV) (l : List AV) (h : AH) : R := match l with | [a0] => S11 c a0 h | _ => none
theorem W11_ok : WOk Try.prog 11 W11 := by
  intro c l h r e
  unfold W11 at e
  split at e
  · exact ⟨P11, by rw [S11_eq]; exact e⟩
  · cases e
/- quietus/arena.Alloc -/
def P12 : Pl := .z
def S12 (c : CV) (a0 a1 : AV) (h : AH) : R :=
pCall c (.fn 16 [] []) [a1] h fun v0 h1 =>
pInt .eql v0 (.int .i64 (.ofNat 0)) fun v2 =>
pCond v2 (
some ((.tup [(.int .i64 (.ofNat 0)), (.int .i64 (.ofNat 3))]), h1)) (
pCall c (.fn 41 [] []) [v0] h1 fun v3 h4 =>
pCall c (.fn 40 [] []) [a0, v3] h4 fun v5 h6 =>
pExtract v5 0 fun v7 =>
pExtract v5 1 fun v8 =>
pInt .neq v8 (.int .i64 (.ofNat 0)) fun v9 =>
pCond v9 (
some ((.tup [(.int .i64 (.ofNat 0)), v8]), h6)) (
pInt .neq v7 (.int .u64 (.ofNat 0)) fun v10 =>
pCond v10 (
pCall c (.fn 42 [] []) [a0, v0, v7] h6 fun v11 h12 =>
pExtract v11 0 fun v13 =>
pExtract v11 1 fun v14 =>
some ((.tup [v13, v14]), h12)) (
pCall c (.fn 43 [] []) [a0, v0] h6 fun v15 h16 =>
pExtract v15 0 fun v17 =>
pExtract v15 1 fun v18 =>
some ((.tup [v17, v18]), h16))))
theorem S12_eq (c : CV) (a0 a1 : AV) (h : AH) : enterK Try.prog NN P12 c 12 [a0, a1] h = S12 c a0 a1 h := by kernel_rfl
def W12 (c : CV) (l : List AV) (h : AH) : R := match l with | [a0, a1] => S12 c a0 a1 h | _ => none
theorem W12_ok : WOk Try.prog 12 W12 := by
  intro c l h r e
  unfold W12 at e
  split at e
  · exact ⟨P12, by rw [S12_eq]; exact e⟩
  · cases e
/- quietus/arena.Free -/
def P13 : Pl := (.n none .z (.n none .z (.n (some [7, 5, 1, 0]) (.n none (.r [[19, 17, 7, 5, 1, 0]]) .z) (.n (some [7, 1, 0]) .z (.n (some [7]) .z .z)))))
def S13 (c : CV) (a0 a1 : AV) (h : AH) : R :=
pCall c (.fn 44 [] []) [a0, a1] h fun v0 h1 =>
pExtract v0 0 fun v2 =>
pExtract v0 1 fun v3 =>
pExtract v0 2 fun v4 =>
joinC (α := AV × AV × AV × AV × Unit → AH → List Nat → R) (fun s5 h6 d7 =>
joinC (α := AV × AV × AV × Unit → AH → List Nat → R) (fun s9 h10 d11 =>
joinC (α := AV × Unit → AH → List Nat → R) (fun s13 h14 d15 =>
pLeave d15 h14 fun h17 =>
some (s13.1, h17)) fun j16 =>
pInt .eql s9.1 (.int .i64 (.ofNat 0)) fun v18 =>
pCond v18 (
pCall c (.fn 46 [] []) [s9.2.2.1, s9.2.1] h10 fun _ h20 =>
j16 (s9.1, ()) h20 d11) (
j16 (s9.1, ()) h10 d11)) fun j12 =>
pInt .eql s5.1 (.int .i64 (.ofNat 0)) fun v21 =>
pCond v21 (
pInt .sub s5.2.2.1 (.int .i64 (.ofNat 1)) fun v22 =>
pConvI .u64 s5.2.1 fun v23 =>
pBuild [(.int .i64 (.ofNat 0)), (.int .u64 (.ofNat 0))] [(0, 1, v22), (1, 1, v23)] fun v24 =>
pBuildS h6 83 [(.int .i64 (.ofNat 0)), (.int .u64 (.ofNat 0))] 1 [(0, 2, v24)] fun v25 h26 =>
pCall c (.fn 45 [] []) [s5.2.2.2.1, v25] h26 fun v27 h28 =>
j12 (v27, s5.2.2.1, s5.2.2.2.1, ()) h28 d7) (
j12 (s5.1, s5.2.2.1, s5.2.2.2.1, ()) h6 d7)) fun j8 =>
pInt .eql v4 (.int .i64 (.ofNat 0)) fun v29 =>
joinC (α := AV × AV × AV × AV × AV × AV × Unit → AH → R) (fun s30 h31 =>
pPick s30.2.1 s30.1 (.bool false) fun v33 =>
pCond v33 (
j8 ((.int .i64 (.ofNat 2)), s30.2.2.2.1, s30.2.2.2.2.1, s30.2.2.2.2.2.1, ()) h31 []) (
j8 (s30.2.2.1, s30.2.2.2.1, s30.2.2.2.2.1, s30.2.2.2.2.2.1, ()) h31 [])) fun j32 =>
pWant v29 true (
pUn .not v3 fun v34 =>
j32 (v34, v29, v4, v2, a1, a0, ()) h1) (
j32 (.undef, v29, v4, v2, a1, a0, ()) h1)
theorem S13_eq (c : CV) (a0 a1 : AV) (h : AH) : enterK Try.prog NN P13 c 13 [a0, a1] h = S13 c a0 a1 h := by kernel_rfl
def W13 (c : CV) (l : List AV) (h : AH) : R := match l with | [a0, a1] => S13 c a0 a1 h | _ => none
theorem W13_ok : WOk Try.prog 13 W13 := by
  intro c l h r e
  unfold W13 at e
  split at e
  · exact ⟨P13, by rw [S13_eq]; exact e⟩
  · cases e
/- quietus/arena.Give -/
def P14 : Pl := (.n none .z (.n none .z (.n (some [7, 5, 1, 0]) (.n none (.r [[19, 18, 7, 5, 1, 0]]) .z) .z)))
def S14 (c : CV) (a0 a1 : AV) (h : AH) : R :=
pCall c (.fn 44 [] []) [a0, a1] h fun v0 h1 =>
pExtract v0 0 fun v2 =>
pExtract v0 1 fun v3 =>
pExtract v0 2 fun v4 =>
joinC (α := AV × AV × AV × AV × Unit → AH → List Nat → R) (fun s5 h6 d7 =>
pInt .neq s5.1 (.int .i64 (.ofNat 0)) fun v9 =>
pCond v9 (
pLeave d7 h6 fun h10 =>
some (s5.1, h10)) (
pCall c (.fn 41 [] []) [s5.2.1] h6 fun v11 h12 =>
pCall c (.fn 40 [] []) [s5.2.2.2.1, v11] h12 fun v13 h14 =>
pExtract v13 0 fun v15 =>
pExtract v13 1 fun v16 =>
pInt .neq v16 (.int .i64 (.ofNat 0)) fun v17 =>
pCond v17 (
pLeave d7 h14 fun h18 =>
some (v16, h18)) (
pBuild [(.int .i64 (.ofNat 0)), (.int .u64 (.ofNat 0))] [(0, 1, s5.2.2.1), (1, 1, v15)] fun v19 =>
pCall c (.fn 41 [] []) [s5.2.1] h14 fun v20 h21 =>
pConvI .u64 s5.2.2.1 fun v22 =>
pBuild [(.int .i64 (.ofNat 0)), (.int .u64 (.ofNat 0))] [(0, 1, v20), (1, 1, v22)] fun v23 =>
pBuildS h21 83 [(.int .i64 (.ofNat 0)), (.int .u64 (.ofNat 0))] 2 [(0, 2, v19), (2, 2, v23)] fun v24 h25 =>
pCall c (.fn 45 [] []) [s5.2.2.2.1, v24] h25 fun v26 h27 =>
pLeave d7 h27 fun h28 =>
some (v26, h28)))) fun j8 =>
pInt .eql v4 (.int .i64 (.ofNat 0)) fun v29 =>
joinC (α := AV × AV × AV × AV × AV × AV × Unit → AH → R) (fun s30 h31 =>
pPick s30.2.1 s30.1 (.bool false) fun v33 =>
pCond v33 (
j8 ((.int .i64 (.ofNat 2)), s30.2.2.2.1, s30.2.2.2.2.1, s30.2.2.2.2.2.1, ()) h31 []) (
j8 (s30.2.2.1, s30.2.2.2.1, s30.2.2.2.2.1, s30.2.2.2.2.2.1, ()) h31 [])) fun j32 =>
pWant v29 true (
j32 (v3, v29, v4, v2, a1, a0, ()) h1) (
j32 (.undef, v29, v4, v2, a1, a0, ()) h1)
theorem S14_eq (c : CV) (a0 a1 : AV) (h : AH) : enterK Try.prog NN P14 c 14 [a0, a1] h = S14 c a0 a1 h := by kernel_rfl
def W14 (c : CV) (l : List AV) (h : AH) : R := match l with | [a0, a1] => S14 c a0 a1 h | _ => none
theorem W14_ok : WOk Try.prog 14 W14 := by
  intro c l h r e
  unfold W14 at e
  split at e
  · exact ⟨P14, by rw [S14_eq]; exact e⟩
  · cases e
/- (*quietus/view.View).Frees -/
def P15 : Pl := .z
def S15 (c : CV) (a0 : AV) (h : AH) : R :=
pNil a0 fun v0 =>
pFieldA v0 2 fun v1 =>
pLoad1 h v1 fun v2 =>
pCall c (.fn 47 [] []) [v2] h fun v3 h4 =>
some (v3, h4)
theorem S15_eq (c : CV) (a0 : AV) (h : AH) : enterK Try.prog NN P15 c 15 [a0] h = S15 c a0 h := by kernel_rfl
def W15 (c : CV) (l : List AV) (h : AH) : R := match l with | [a0] => S15 c a0 h | _ => none
theorem W15_ok : WOk Try.prog 15 W15 := by
  intro c l h r e
  unfold W15 at e
  split at e
  · exact ⟨P15, by rw [S15_eq]; exact e⟩
  · cases e
/- quietus/arena.Class -/
def P16 : Pl := (.n none .z (.n none .z (.n none (.n none .z (.n none (.n (some [3, 0]) .z .z) .z)) .z)))
def S16 (c : CV) (a0 : AV) (h : AH) : R :=
pInt .lss a0 (.int .i64 (.ofNat 1)) fun v0 =>
pCond v0 (
some ((.int .i64 (.ofNat 0)), h)) (
loopC (σ := AV × AV × Unit) NN (fun i4 s1 h2 d3 =>
pInt .leq s1.1 (.int .i64 (.ofNat 4)) fun v5 =>
pCond v5 (
pCall c (.fn 17 [] []) [s1.1] h2 fun v6 h7 =>
pInt .geq v6 s1.2.1 fun v8 =>
pCond v8 (
pLeave d3 h7 fun h9 =>
some (s1.1, h9)) (
pInt .add s1.1 (.int .i64 (.ofNat 1)) fun v10 =>
i4 (v10, s1.2.1, ()) h7 d3)) (
pLeave d3 h2 fun h11 =>
some ((.int .i64 (.ofNat 0)), h11))) ((.int .i64 (.ofNat 1)), a0, ()) h [])
theorem S16_eq (c : CV) (a0 : AV) (h : AH) : enterK Try.prog NN P16 c 16 [a0] h = S16 c a0 h := by kernel_rfl
def W16 (c : CV) (l : List AV) (h : AH) : R := match l with | [a0] => S16 c a0 h | _ => none
theorem W16_ok : WOk Try.prog 16 W16 := by
  intro c l h r e
  unfold W16 at e
  split at e
  · exact ⟨P16, by rw [S16_eq]; exact e⟩
  · cases e
/- quietus/arena.Size -/
def P17 : Pl := (.n none .z (.n none (.n none (.r [[7, 5, 0]]) .z) .z))
def S17 (_ : CV) (a0 : AV) (h : AH) : R :=
pInt .lss a0 (.int .i64 (.ofNat 1)) fun v0 =>
joinC (α := AV × AV × AV × Unit → AH → R) (fun s1 h2 =>
pPick s1.2.1 (.bool true) s1.1 fun v4 =>
pCond v4 (
some ((.int .i64 (.ofNat 0)), h2)) (
pShift .shl (.int .i64 (.ofNat 1)) s1.2.2.1 fun v5 =>
some (v5, h2))) fun j3 =>
pWant v0 false (
pInt .gtr a0 (.int .i64 (.ofNat 4)) fun v6 =>
j3 (v6, v0, a0, ()) h) (
j3 (.undef, v0, a0, ()) h)
theorem S17_eq (c : CV) (a0 : AV) (h : AH) : enterK Try.prog NN P17 c 17 [a0] h = S17 c a0 h := by kernel_rfl
def W17 (c : CV) (l : List AV) (h : AH) : R := match l with | [a0] => S17 c a0 h | _ => none
theorem W17_ok : WOk Try.prog 17 W17 := by
  intro c l h r e
  unfold W17 at e
  split at e
  · exact ⟨P17, by rw [S17_eq]; exact e⟩
  · cases e
/- quietus/view.New -/
def P26 : Pl := .z
def S26 (c : CV) (a0 a1 : AV) (h : AH) : R :=
pMM false [a0, (.int .i64 (.ofNat 256))] fun v0 =>
pMM true [(.int .i64 (.ofNat 32)), v0] fun v1 =>
pMake h 105 [(.int .u64 (.ofNat 0)), (.bool false)] v1 v1 fun v2 h3 =>
pCall c (.fn 62 [] []) [a1] h3 fun v4 h5 =>
pBuild [.nils, .nils, .nilp, (.int .i64 (.ofNat 0))] [(0, 1, v2), (2, 1, v4)] fun v6 =>
pBox h5 88 v6 fun v7 h8 =>
some (v7, h8)
theorem S26_eq (c : CV) (a0 a1 : AV) (h : AH) : enterK Try.prog NN P26 c 26 [a0, a1] h = S26 c a0 a1 h := by kernel_rfl
def W26 (c : CV) (l : List AV) (h : AH) : R := match l with | [a0, a1] => S26 c a0 a1 h | _ => none
theorem W26_ok : WOk Try.prog 26 W26 := by
  intro c l h r e
  unfold W26 at e
  split at e
  · exact ⟨P26, by rw [S26_eq]; exact e⟩
  · cases e
/- (*quietus/view.View).Know -/
def P29 : Pl := .z
def S29 (c : CV) (a0 a1 a2 : AV) (h : AH) : R :=
pCall c (.fn 64 [] []) [a0, a1] h fun v0 h1 =>
pUn .not v0 fun v2 =>
pCond v2 (
some ((.int .i64 (.ofNat 2)), h1)) (
pNil a0 fun v3 =>
pFieldA v3 0 fun v4 =>
pLoad1 h1 v4 fun v5 =>
pIdxS v5 a1 2 fun v6 =>
pLoadN h1 v6 2 fun v7 =>
pBox h1 105 (.agg [(.int .u64 (.ofNat 0)), (.bool false)]) fun v8 h9 =>
pStore h9 v8 v7 2 fun h10 =>
pFieldA v8 1 fun v11 =>
pLoad1 h10 v11 fun v12 =>
pCond v12 (
pFieldA v8 0 fun v13 =>
pLoad1 h10 v13 fun v14 =>
pInt .neq v14 a2 fun v15 =>
pCond v15 (
some ((.int .i64 (.ofNat 14)), h10)) (
some ((.int .i64 (.ofNat 0)), h10))) (
pNil a0 fun v16 =>
pFieldA v16 0 fun v17 =>
pLoad1 h10 v17 fun v18 =>
pBuild [(.int .u64 (.ofNat 0)), (.bool false)] [(0, 1, a2), (1, 1, (.bool true))] fun v19 =>
pIdxS v18 a1 2 fun v20 =>
pStore h10 v20 v19 2 fun h21 =>
pNil a0 fun v22 =>
pFieldA v22 1 fun v23 =>
pLoad1 h21 v23 fun v24 =>
pBuildS h21 3 [(.int .i64 (.ofNat 0))] 1 [(0, 1, a1)] fun v25 h26 =>
pAppend h26 3 1 v24 v25 fun v27 h28 =>
pNil a0 fun v29 =>
pFieldA v29 1 fun v30 =>
pStore h28 v30 v27 1 fun h31 =>
some ((.int .i64 (.ofNat 0)), h31)))
theorem S29_eq (c : CV) (a0 a1 a2 : AV) (h : AH) : enterK Try.prog NN P29 c 29 [a0, a1, a2] h = S29 c a0 a1 a2 h := by kernel_rfl
def W29 (c : CV) (l : List AV) (h : AH) : R := match l with | [a0, a1, a2] => S29 c a0 a1 a2 h | _ => none
theorem W29_ok : WOk Try.prog 29 W29 := by
  intro c l h r e
  unfold W29 at e
  split at e
  · exact ⟨P29, by rw [S29_eq]; exact e⟩
  · cases e
/- (*quietus/view.View).Size -/
def P39 : Pl := .z
def S39 (_ : CV) (a0 : AV) (h : AH) : R :=
pNil a0 fun v0 =>
pFieldA v0 0 fun v1 =>
pLoad1 h v1 fun v2 =>
pLenS v2 fun v3 =>
some (v3, h)
theorem S39_eq (c : CV) (a0 : AV) (h : AH) : enterK Try.prog NN P39 c 39 [a0] h = S39 c a0 h := by kernel_rfl
def W39 (c : CV) (l : List AV) (h : AH) : R := match l with | [a0] => S39 c a0 h | _ => none
theorem W39_ok : WOk Try.prog 39 W39 := by
  intro c l h r e
  unfold W39 at e
  split at e
  · exact ⟨P39, by rw [S39_eq]; exact e⟩
  · cases e
/- (*quietus/view.View).Read -/
def P40 : Pl := .z
def S40 (c : CV) (a0 a1 : AV) (h : AH) : R :=
pCall c (.fn 64 [] []) [a0, a1] h fun v0 h1 =>
pUn .not v0 fun v2 =>
pCond v2 (
some ((.tup [(.int .u64 (.ofNat 0)), (.int .i64 (.ofNat 2))]), h1)) (
pNil a0 fun v3 =>
pFieldA v3 2 fun v4 =>
pLoad1 h1 v4 fun v5 =>
pCall c (.fn 72 [] []) [v5, a1] h1 fun v6 h7 =>
pExtract v6 0 fun v8 =>
pExtract v6 1 fun v9 =>
pCond v9 (
some ((.tup [v8, (.int .i64 (.ofNat 0))]), h7)) (
pNil a0 fun v10 =>
pFieldA v10 0 fun v11 =>
pLoad1 h7 v11 fun v12 =>
pIdxS v12 a1 2 fun v13 =>
pLoadN h7 v13 2 fun v14 =>
pBox h7 105 (.agg [(.int .u64 (.ofNat 0)), (.bool false)]) fun v15 h16 =>
pStore h16 v15 v14 2 fun h17 =>
pFieldA v15 1 fun v18 =>
pLoad1 h17 v18 fun v19 =>
pCond v19 (
pFieldA v15 0 fun v20 =>
pLoad1 h17 v20 fun v21 =>
some ((.tup [v21, (.int .i64 (.ofNat 0))]), h17)) (
pNil a0 fun v22 =>
pFieldA v22 3 fun v23 =>
pStore h17 v23 a1 1 fun h24 =>
some ((.tup [(.int .u64 (.ofNat 0)), (.int .i64 (.ofNat 11))]), h24))))
theorem S40_eq (c : CV) (a0 a1 : AV) (h : AH) : enterK Try.prog NN P40 c 40 [a0, a1] h = S40 c a0 a1 h := by kernel_rfl
def W40 (c : CV) (l : List AV) (h : AH) : R := match l with | [a0, a1] => S40 c a0 a1 h | _ => none
theorem W40_ok : WOk Try.prog 40 W40 := by
  intro c l h r e
  unfold W40 at e
  split at e
  · exact ⟨P40, by rw [S40_eq]; exact e⟩
  · cases e
/- quietus/arena.head -/
def P41 : Pl := .z
def S41 (_ : CV) (a0 : AV) (h : AH) : R :=
pInt .add (.int .i64 (.ofNat 0)) a0 fun v0 =>
some (v0, h)
theorem S41_eq (c : CV) (a0 : AV) (h : AH) : enterK Try.prog NN P41 c 41 [a0] h = S41 c a0 h := by kernel_rfl
def W41 (c : CV) (l : List AV) (h : AH) : R := match l with | [a0] => S41 c a0 h | _ => none
theorem W41_ok : WOk Try.prog 41 W41 := by
  intro c l h r e
  unfold W41 at e
  split at e
  · exact ⟨P41, by rw [S41_eq]; exact e⟩
  · cases e
/- quietus/arena.again -/
def P42 : Pl := (.n none .z (.n none .z (.n none .z (.n none .z (.n (some [10, 8]) .z .z)))))
def S42 (c : CV) (a0 a1 a2 : AV) (h : AH) : R :=
pInt .geq a2 (.int .u64 (.ofNat 2147483648)) fun v0 =>
pCond v0 (
some ((.tup [(.int .i64 (.ofNat 0)), (.int .i64 (.ofNat 2))]), h)) (
pConvI .i64 a2 fun v1 =>
pCall c (.fn 40 [] []) [a0, v1] h fun v2 h3 =>
pExtract v2 0 fun v4 =>
pExtract v2 1 fun v5 =>
joinC (α := AV × AV × Unit → AH → List Nat → R) (fun s6 h7 d8 =>
pInt .neq s6.1 (.int .i64 (.ofNat 0)) fun v10 =>
pCond v10 (
pLeave d8 h7 fun h11 =>
some ((.tup [(.int .i64 (.ofNat 0)), s6.1]), h11)) (
pLeave d8 h7 fun h12 =>
some ((.tup [s6.2.1, (.int .i64 (.ofNat 0))]), h12))) fun j9 =>
pInt .eql v5 (.int .i64 (.ofNat 0)) fun v13 =>
pCond v13 (
pCall c (.fn 41 [] []) [a1] h3 fun v14 h15 =>
pBuild [(.int .i64 (.ofNat 0)), (.int .u64 (.ofNat 0))] [(0, 1, v14), (1, 1, v4)] fun v16 =>
pInt .sub v1 (.int .i64 (.ofNat 1)) fun v17 =>
pInt .add a1 (.int .i64 (.ofNat 8)) fun v18 =>
pConvI .u64 v18 fun v19 =>
pBuild [(.int .i64 (.ofNat 0)), (.int .u64 (.ofNat 0))] [(0, 1, v17), (1, 1, v19)] fun v20 =>
pBuildS h15 83 [(.int .i64 (.ofNat 0)), (.int .u64 (.ofNat 0))] 2 [(0, 2, v16), (2, 2, v20)] fun v21 h22 =>
pCall c (.fn 45 [] []) [a0, v21] h22 fun v23 h24 =>
j9 (v23, v1, ()) h24 []) (
j9 (v5, v1, ()) h3 []))
theorem S42_eq (c : CV) (a0 a1 a2 : AV) (h : AH) : enterK Try.prog NN P42 c 42 [a0, a1, a2] h = S42 c a0 a1 a2 h := by kernel_rfl
def W42 (c : CV) (l : List AV) (h : AH) : R := match l with | [a0, a1, a2] => S42 c a0 a1 a2 h | _ => none
theorem W42_ok : WOk Try.prog 42 W42 := by
  intro c l h r e
  unfold W42 at e
  split at e
  · exact ⟨P42, by rw [S42_eq]; exact e⟩
  · cases e
/- quietus/arena.grown -/
def P43 : Pl := (.n none .z (.n none .z (.n none .z (.n none (.n none (.r [[22, 20, 6, 1, 0], [33, 24, 6, 1, 0]]) .z) .z))))
def S43 (c : CV) (a0 a1 : AV) (h : AH) : R :=
pCall c (.fn 40 [] []) [a0, (.int .i64 (.ofNat 5))] h fun v0 h1 =>
pExtract v0 0 fun v2 =>
pExtract v0 1 fun v3 =>
pInt .neq v3 (.int .i64 (.ofNat 0)) fun v4 =>
pCond v4 (
some ((.tup [(.int .i64 (.ofNat 0)), v3]), h1)) (
pInt .lss v2 (.int .u64 (.ofNat 14)) fun v5 =>
joinC (α := AV × AV × AV × AV × AV × Unit → AH → R) (fun s6 h7 =>
pPick s6.2.1 (.bool true) s6.1 fun v9 =>
joinC (α := AV × AV × AV × AV × AV × Unit → AH → R) (fun s10 h11 =>
pPick s10.2.1 (.bool true) s10.1 fun v13 =>
pCond v13 (
some ((.tup [(.int .i64 (.ofNat 0)), (.int .i64 (.ofNat 4))]), h11)) (
pConvI .i64 s10.2.2.1 fun v14 =>
pInt .add v14 (.int .i64 (.ofNat 1)) fun v15 =>
pCall c (.fn 17 [] []) [s10.2.2.2.1] h11 fun v16 h17 =>
pInt .add v15 v16 fun v18 =>
pConvI .u64 v18 fun v19 =>
pBuild [(.int .i64 (.ofNat 0)), (.int .u64 (.ofNat 0))] [(0, 1, (.int .i64 (.ofNat 5))), (1, 1, v19)] fun v20 =>
pInt .add s10.2.2.2.1 (.int .i64 (.ofNat 8)) fun v21 =>
pConvI .u64 v21 fun v22 =>
pBuild [(.int .i64 (.ofNat 0)), (.int .u64 (.ofNat 0))] [(0, 1, v14), (1, 1, v22)] fun v23 =>
pBuildS h17 83 [(.int .i64 (.ofNat 0)), (.int .u64 (.ofNat 0))] 2 [(0, 2, v20), (2, 2, v23)] fun v24 h25 =>
pCall c (.fn 45 [] []) [s10.2.2.2.2.1, v24] h25 fun v26 h27 =>
pInt .neq v26 (.int .i64 (.ofNat 0)) fun v28 =>
pCond v28 (
some ((.tup [(.int .i64 (.ofNat 0)), v26]), h27)) (
pInt .add v14 (.int .i64 (.ofNat 1)) fun v29 =>
some ((.tup [v29, (.int .i64 (.ofNat 0))]), h27)))) fun j12 =>
pWant v9 false (
pConvI .i64 s6.2.2.1 fun v30 =>
pInt .add v30 (.int .i64 (.ofNat 1)) fun v31 =>
pCall c (.fn 17 [] []) [s6.2.2.2.1] h7 fun v32 h33 =>
pInt .add v31 v32 fun v34 =>
pCall c (.fn 39 [] []) [s6.2.2.2.2.1] h33 fun v35 h36 =>
pInt .gtr v34 v35 fun v37 =>
j12 (v37, v9, s6.2.2.1, s6.2.2.2.1, s6.2.2.2.2.1, ()) h36) (
j12 (.undef, v9, s6.2.2.1, s6.2.2.2.1, s6.2.2.2.2.1, ()) h7)) fun j8 =>
pWant v5 false (
pInt .geq v2 (.int .u64 (.ofNat 2147483648)) fun v38 =>
j8 (v38, v5, v2, a1, a0, ()) h1) (
j8 (.undef, v5, v2, a1, a0, ()) h1))
theorem S43_eq (c : CV) (a0 a1 : AV) (h : AH) : enterK Try.prog NN P43 c 43 [a0, a1] h = S43 c a0 a1 h := by kernel_rfl
def W43 (c : CV) (l : List AV) (h : AH) : R := match l with | [a0, a1] => S43 c a0 a1 h | _ => none
theorem W43_ok : WOk Try.prog 43 W43 := by
  intro c l h r e
  unfold W43 at e
  split at e
  · exact ⟨P43, by rw [S43_eq]; exact e⟩
  · cases e
/- quietus/arena.asked -/
def P44 : Pl := (.n none .z (.n none (.n none (.r [[17, 13, 1, 0]]) .z) .z))
def S44 (c : CV) (a0 a1 : AV) (h : AH) : R :=
pInt .leq a1 (.int .i64 (.ofNat 14)) fun v0 =>
joinC (α := AV × AV × AV × AV × Unit → AH → R) (fun s1 h2 =>
pPick s1.2.1 (.bool true) s1.1 fun v4 =>
pCond v4 (
some ((.tup [(.int .i64 (.ofNat 0)), (.bool false), (.int .i64 (.ofNat 2))]), h2)) (
pInt .sub s1.2.2.1 (.int .i64 (.ofNat 1)) fun v5 =>
pCall c (.fn 40 [] []) [s1.2.2.2.1, v5] h2 fun v6 h7 =>
pExtract v6 0 fun v8 =>
pExtract v6 1 fun v9 =>
pInt .neq v9 (.int .i64 (.ofNat 0)) fun v10 =>
pCond v10 (
some ((.tup [(.int .i64 (.ofNat 0)), (.bool false), v9]), h7)) (
pCall c (.fn 66 [] []) [v8] h7 fun v11 h12 =>
pExtract v11 0 fun v13 =>
pExtract v11 1 fun v14 =>
pInt .eql v13 (.int .i64 (.ofNat 0)) fun v15 =>
pCond v15 (
some ((.tup [(.int .i64 (.ofNat 0)), (.bool false), (.int .i64 (.ofNat 2))]), h12)) (
some ((.tup [v13, v14, (.int .i64 (.ofNat 0))]), h12))))) fun j3 =>
pWant v0 false (
pCall c (.fn 39 [] []) [a0] h fun v16 h17 =>
pInt .geq a1 v16 fun v18 =>
j3 (v18, v0, a1, a0, ()) h17) (
j3 (.undef, v0, a1, a0, ()) h)
theorem S44_eq (c : CV) (a0 a1 : AV) (h : AH) : enterK Try.prog NN P44 c 44 [a0, a1] h = S44 c a0 a1 h := by kernel_rfl
def W44 (c : CV) (l : List AV) (h : AH) : R := match l with | [a0, a1] => S44 c a0 a1 h | _ => none
theorem W44_ok : WOk Try.prog 44 W44 := by
  intro c l h r e
  unfold W44 at e
  split at e
  · exact ⟨P44, by rw [S44_eq]; exact e⟩
  · cases e
/- (*quietus/view.View).Take -/
def P45 : Pl := (.n none .z (.n none (.n none .z (.n none (.n (some [9, 8, 7, 1, 0]) .z .z) .z)) .z))
def S45 (c : CV) (a0 a1 : AV) (h : AH) : R :=
pLenS a1 fun v0 =>
loopC (σ := AV × AV × AV × AV × AV × Unit) NN (fun i4 s1 h2 d3 =>
pInt .lss s1.1 s1.2.1 fun v5 =>
pCond v5 (
pIdxS s1.2.2.1 s1.1 2 fun v6 =>
pLoadN h2 v6 2 fun v7 =>
pBox h2 83 (.agg [(.int .i64 (.ofNat 0)), (.int .u64 (.ofNat 0))]) fun v8 h9 =>
pStore h9 v8 v7 2 fun h10 =>
pFieldA v8 0 fun v11 =>
pLoad1 h10 v11 fun v12 =>
pCall c (.fn 64 [] []) [s1.2.2.2.2.1, v12] h10 fun v13 h14 =>
pUn .not v13 fun v15 =>
pCond v15 (
pLeave d3 h14 fun h16 =>
some ((.int .i64 (.ofNat 2)), h16)) (
pInt .add s1.1 (.int .i64 (.ofNat 1)) fun v17 =>
i4 (v17, s1.2.1, s1.2.2.1, s1.2.2.2.1, s1.2.2.2.2.1, ()) h14 d3)) (
pNil s1.2.2.2.2.1 fun v18 =>
pFieldA v18 2 fun v19 =>
pLoad1 h2 v19 fun v20 =>
pCall c (.fn 73 [] []) [v20, s1.2.2.2.1] h2 fun v21 h22 =>
pLeave d3 h22 fun h23 =>
some (v21, h23))) ((.int .i64 (.ofNat 0)), v0, a1, a1, a0, ()) h []
theorem S45_eq (c : CV) (a0 a1 : AV) (h : AH) : enterK Try.prog NN P45 c 45 [a0, a1] h = S45 c a0 a1 h := by kernel_rfl
def W45 (c : CV) (l : List AV) (h : AH) : R := match l with | [a0, a1] => S45 c a0 a1 h | _ => none
theorem W45_ok : WOk Try.prog 45 W45 := by
  intro c l h r e
  unfold W45 at e
  split at e
  · exact ⟨P45, by rw [S45_eq]; exact e⟩
  · cases e
/- (*quietus/view.View).Free -/
def P46 : Pl := .z
def S46 (c : CV) (a0 a1 : AV) (h : AH) : R :=
pNil a0 fun v0 =>
pFieldA v0 2 fun v1 =>
pLoad1 h v1 fun v2 =>
pCall c (.fn 74 [] []) [v2, a1] h fun _ h4 =>
some ((.tup []), h4)
theorem S46_eq (c : CV) (a0 a1 : AV) (h : AH) : enterK Try.prog NN P46 c 46 [a0, a1] h = S46 c a0 a1 h := by kernel_rfl
def W46 (c : CV) (l : List AV) (h : AH) : R := match l with | [a0, a1] => S46 c a0 a1 h | _ => none
theorem W46_ok : WOk Try.prog 46 W46 := by
  intro c l h r e
  unfold W46 at e
  split at e
  · exact ⟨P46, by rw [S46_eq]; exact e⟩
  · cases e
/- (*quietus/levels.Levels).Frees -/
def P47 : Pl := (.n none .z (.n none .z (.n none (.n none .z (.n none (.n (some [11, 10, 9, 3]) .z .z) .z)) .z)))
def S47 (_ : CV) (a0 : AV) (h : AH) : R :=
pNil a0 fun v0 =>
pFieldA v0 1 fun v1 =>
pLoad1 h v1 fun v2 =>
pLenS v2 fun v3 =>
loopC (σ := AV × AV × AV × AV × Unit) NN (fun i7 s4 h5 d6 =>
pInt .lss s4.1 s4.2.1 fun v8 =>
pCond v8 (
pIdxS s4.2.2.1 s4.1 1 fun v9 =>
pLoad1 h5 v9 fun v10 =>
pNil v10 fun v11 =>
pFieldA v11 1 fun v12 =>
pLoad1 h5 v12 fun v13 =>
pAppend h5 3 1 s4.2.2.2.1 v13 fun v14 h15 =>
pInt .add s4.1 (.int .i64 (.ofNat 1)) fun v16 =>
i7 (v16, s4.2.1, s4.2.2.1, v14, ()) h15 d6) (
pLeave d6 h5 fun h17 =>
some (s4.2.2.2.1, h17))) ((.int .i64 (.ofNat 0)), v3, v2, .nils, ()) h []
theorem S47_eq (c : CV) (a0 : AV) (h : AH) : enterK Try.prog NN P47 c 47 [a0] h = S47 c a0 h := by kernel_rfl
def W47 (c : CV) (l : List AV) (h : AH) : R := match l with | [a0] => S47 c a0 h | _ => none
theorem W47_ok : WOk Try.prog 47 W47 := by
  intro c l h r e
  unfold W47 at e
  split at e
  · exact ⟨P47, by rw [S47_eq]; exact e⟩
  · cases e
/- quietus/levels.New -/
def P62 : Pl := .z
def S62 (c : CV) (a0 : AV) (h : AH) : R :=
pMM false [a0, (.int .i64 (.ofNat 96))] fun v0 =>
pMM true [(.int .i64 (.ofNat 0)), v0] fun v1 =>
pCall c (.fn 90 [] []) [] h fun v2 h3 =>
pBuildS h3 119 [.nilp] 1 [(0, 1, v2)] fun v4 h5 =>
pBuild [(.int .i64 (.ofNat 0)), .nils] [(0, 1, v1), (1, 1, v4)] fun v6 =>
pBox h5 118 v6 fun v7 h8 =>
some (v7, h8)
theorem S62_eq (c : CV) (a0 : AV) (h : AH) : enterK Try.prog NN P62 c 62 [a0] h = S62 c a0 h := by kernel_rfl
def W62 (c : CV) (l : List AV) (h : AH) : R := match l with | [a0] => S62 c a0 h | _ => none
theorem W62_ok : WOk Try.prog 62 W62 := by
  intro c l h r e
  unfold W62 at e
  split at e
  · exact ⟨P62, by rw [S62_eq]; exact e⟩
  · cases e
/- (*quietus/view.View).is -/
def P64 : Pl := (.n none .z (.n none (.r [[14, 7]]) .z))
def S64 (_ : CV) (a0 a1 : AV) (h : AH) : R :=
pInt .geq a1 (.int .i64 (.ofNat 1)) fun v0 =>
joinC (α := AV × AV × Unit → AH → R) (fun s1 h2 =>
pPick s1.2.1 s1.1 (.bool false) fun v4 =>
some (v4, h2)) fun j3 =>
pWant v0 true (
pNil a0 fun v5 =>
pFieldA v5 0 fun v6 =>
pLoad1 h v6 fun v7 =>
pLenS v7 fun v8 =>
pInt .lss a1 v8 fun v9 =>
j3 (v9, v0, ()) h) (
j3 (.undef, v0, ()) h)
theorem S64_eq (c : CV) (a0 a1 : AV) (h : AH) : enterK Try.prog NN P64 c 64 [a0, a1] h = S64 c a0 a1 h := by kernel_rfl
def W64 (c : CV) (l : List AV) (h : AH) : R := match l with | [a0, a1] => S64 c a0 a1 h | _ => none
theorem W64_ok : WOk Try.prog 64 W64 := by
  intro c l h r e
  unfold W64 at e
  split at e
  · exact ⟨P64, by rw [S64_eq]; exact e⟩
  · cases e
/- quietus/arena.header -/
def P66 : Pl := (.n none .z (.n none (.n none (.n none (.r [[9, 7, 0]]) (.n none .z (.n none (.r [[18, 16, 0]]) .z))) .z) .z))
def S66 (_ : CV) (a0 : AV) (h : AH) : R :=
pInt .geq a0 (.int .u64 (.ofNat 1)) fun v0 =>
joinC (α := AV × AV × AV × Unit → AH → R) (fun s1 h2 =>
pPick s1.2.1 s1.1 (.bool false) fun v4 =>
pCond v4 (
pConvI .i64 s1.2.2.1 fun v5 =>
some ((.tup [v5, (.bool false)]), h2)) (
pInt .geq s1.2.2.1 (.int .u64 (.ofNat 9)) fun v6 =>
joinC (α := AV × AV × AV × Unit → AH → R) (fun s7 h8 =>
pPick s7.2.1 s7.1 (.bool false) fun v10 =>
pCond v10 (
pInt .sub s7.2.2.1 (.int .u64 (.ofNat 8)) fun v11 =>
pConvI .i64 v11 fun v12 =>
some ((.tup [v12, (.bool true)]), h8)) (
some ((.tup [(.int .i64 (.ofNat 0)), (.bool false)]), h8))) fun j9 =>
pWant v6 true (
pInt .leq s1.2.2.1 (.int .u64 (.ofNat 12)) fun v13 =>
j9 (v13, v6, s1.2.2.1, ()) h2) (
j9 (.undef, v6, s1.2.2.1, ()) h2))) fun j3 =>
pWant v0 true (
pInt .leq a0 (.int .u64 (.ofNat 4)) fun v14 =>
j3 (v14, v0, a0, ()) h) (
j3 (.undef, v0, a0, ()) h)
theorem S66_eq (c : CV) (a0 : AV) (h : AH) : enterK Try.prog NN P66 c 66 [a0] h = S66 c a0 h := by kernel_rfl
def W66 (c : CV) (l : List AV) (h : AH) : R := match l with | [a0] => S66 c a0 h | _ => none
theorem W66_ok : WOk Try.prog 66 W66 := by
  intro c l h r e
  unfold W66 at e
  split at e
  · exact ⟨P66, by rw [S66_eq]; exact e⟩
  · cases e
/- (*quietus/levels.Levels).Get -/
def P72 : Pl := (.n none .z (.n none (.n none .z (.n none (.n (some [5, 4, 3]) .z .z) .z)) .z))
def S72 (c : CV) (a0 a1 : AV) (h : AH) : R :=
pBox h 3 a1 fun v0 h1 =>
pBox h1 43 (.int .u64 (.ofNat 0)) fun v2 h3 =>
pBox h3 4 (.bool false) fun v4 h5 =>
pNil a0 fun v6 =>
pFieldA v6 1 fun v7 =>
pLoad1 h5 v7 fun v8 =>
pCall c (.fn 75 [] []) [v8] h5 fun v9 h10 =>
pCallF c v9 [.yield (h10.new .dfd).nx] ((h10.new .dfd).new (.loop .ready none 72 [1, 0, 1, 0] [5, 4, 3] [v4, v2, v0] h10.nx)) fun _ h11 =>
pEndLoop h11 (h10.new .dfd).nx fun p13 h12 =>
pNone p13 (
pStore h12 v2 (.int .u64 (.ofNat 0)) 1 fun h14 =>
pStore h14 v4 (.bool false) 1 fun h15 =>
pLeave (h10.nx :: []) h15 fun h16 =>
pLoad1 h16 v2 fun v17 =>
pLoad1 h16 v4 fun v18 =>
some ((.tup [v17, v18]), h16)) <|
pIs p13 .ret (
pLeave (h10.nx :: []) h12 fun h19 =>
pLoad1 h19 v2 fun v20 =>
pLoad1 h19 v4 fun v21 =>
some ((.tup [v20, v21]), h19)) <|
none
theorem S72_eq (c : CV) (a0 a1 : AV) (h : AH) : enterK Try.prog NN P72 c 72 [a0, a1] h = S72 c a0 a1 h := by kernel_rfl
def W72 (c : CV) (l : List AV) (h : AH) : R := match l with | [a0, a1] => S72 c a0 a1 h | _ => none
theorem W72_ok : WOk Try.prog 72 W72 := by
  intro c l h r e
  unfold W72 at e
  split at e
  · exact ⟨P72, by rw [S72_eq]; exact e⟩
  · cases e
/- (*quietus/levels.Levels).Take -/
def P73 : Pl := (.n none .z (.n none .z (.n none .z (.n none (.n none .z (.n none (.n (some [20, 19, 18, 5, 0]) .z .z) .z)) .z))))
def S73 (c : CV) (a0 a1 : AV) (h : AH) : R :=
pCall c (.fn 76 [] []) [(.int .i64 (.ofNat 96))] h fun v0 h1 =>
pCall c (.fn 93 [] []) [a0] h1 fun v2 h3 =>
pNil v2 fun v4 =>
pFieldA v4 0 fun v5 =>
pLoad1 h3 v5 fun v6 =>
pCall c (.fn 78 [] []) [v6] h3 fun v7 h8 =>
pCall c (.fn 77 [] []) [v0, v7] h8 fun _ h10 =>
pLenS a1 fun v11 =>
loopC (σ := AV × AV × AV × AV × AV × Unit) NN (fun i15 s12 h13 d14 =>
pInt .lss s12.1 s12.2.1 fun v16 =>
pCond v16 (
pIdxS s12.2.2.1 s12.1 2 fun v17 =>
pLoadN h13 v17 2 fun v18 =>
pBox h13 83 (.agg [(.int .i64 (.ofNat 0)), (.int .u64 (.ofNat 0))]) fun v19 h20 =>
pStore h20 v19 v18 2 fun h21 =>
pFieldA v19 0 fun v22 =>
pLoad1 h21 v22 fun v23 =>
pFieldA v19 1 fun v24 =>
pLoad1 h21 v24 fun v25 =>
pCall c (.fn 94 [] []) [s12.2.2.2.2.1, v23, v25] h21 fun v26 h27 =>
pInt .neq v26 (.int .i64 (.ofNat 0)) fun v28 =>
pCond v28 (
pCall c (.fn 93 [] []) [s12.2.2.2.2.1] h27 fun v29 h30 =>
pNil v29 fun v31 =>
pFieldA v31 0 fun v32 =>
pStore h30 v32 s12.2.2.2.1 1 fun h33 =>
pLeave d14 h33 fun h34 =>
some (v26, h34)) (
pInt .add s12.1 (.int .i64 (.ofNat 1)) fun v35 =>
i15 (v35, s12.2.1, s12.2.2.1, s12.2.2.2.1, s12.2.2.2.2.1, ()) h27 d14)) (
pLeave d14 h13 fun h36 =>
some ((.int .i64 (.ofNat 0)), h36))) ((.int .i64 (.ofNat 0)), v11, a1, v0, a0, ()) h10 []
theorem S73_eq (c : CV) (a0 a1 : AV) (h : AH) : enterK Try.prog NN P73 c 73 [a0, a1] h = S73 c a0 a1 h := by kernel_rfl
def W73 (c : CV) (l : List AV) (h : AH) : R := match l with | [a0, a1] => S73 c a0 a1 h | _ => none
theorem W73_ok : WOk Try.prog 73 W73 := by
  intro c l h r e
  unfold W73 at e
  split at e
  · exact ⟨P73, by rw [S73_eq]; exact e⟩
  · cases e
/- (*quietus/levels.Levels).Free -/
def P74 : Pl := .z
def S74 (c : CV) (a0 a1 : AV) (h : AH) : R :=
pCall c (.fn 93 [] []) [a0] h fun v0 h1 =>
pNil v0 fun v2 =>
pFieldA v2 1 fun v3 =>
pLoad1 h1 v3 fun v4 =>
pBuildS h1 3 [(.int .i64 (.ofNat 0))] 1 [(0, 1, a1)] fun v5 h6 =>
pAppend h6 3 1 v4 v5 fun v7 h8 =>
pNil v0 fun v9 =>
pFieldA v9 1 fun v10 =>
pStore h8 v10 v7 1 fun h11 =>
some ((.tup []), h11)
theorem S74_eq (c : CV) (a0 a1 : AV) (h : AH) : enterK Try.prog NN P74 c 74 [a0, a1] h = S74 c a0 a1 h := by kernel_rfl
def W74 (c : CV) (l : List AV) (h : AH) : R := match l with | [a0, a1] => S74 c a0 a1 h | _ => none
theorem W74_ok : WOk Try.prog 74 W74 := by
  intro c l h r e
  unfold W74 at e
  split at e
  · exact ⟨P74, by rw [S74_eq]; exact e⟩
  · cases e
/- slices.Backward[[]*quietus/levels.level,*quietus/levels.level] -/
def P75 : Pl := .z
def S75 (_ : CV) (a0 : AV) (h : AH) : R :=
pBox h 116 a0 fun v0 h1 =>
some ((.fn 95 [] [v0]), h1)
theorem S75_eq (c : CV) (a0 : AV) (h : AH) : enterK Try.prog NN P75 c 75 [a0] h = S75 c a0 h := by kernel_rfl
def W75 (c : CV) (l : List AV) (h : AH) : R := match l with | [a0] => S75 c a0 h | _ => none
theorem W75_ok : WOk Try.prog 75 W75 := by
  intro c l h r e
  unfold W75 at e
  split at e
  · exact ⟨P75, by rw [S75_eq]; exact e⟩
  · cases e
/- quietus/writes.New -/
def P76 : Pl := .z
def S76 (_ : CV) (a0 : AV) (h : AH) : R :=
pMM false [a0, (.int .i64 (.ofNat 96))] fun v0 =>
pMM true [(.int .i64 (.ofNat 0)), v0] fun v1 =>
pBuild [(.int .i64 (.ofNat 0)), .nils] [(0, 1, v1)] fun v2 =>
pBox h 134 v2 fun v3 h4 =>
some (v3, h4)
theorem S76_eq (c : CV) (a0 : AV) (h : AH) : enterK Try.prog NN P76 c 76 [a0] h = S76 c a0 h := by kernel_rfl
def W76 (c : CV) (l : List AV) (h : AH) : R := match l with | [a0] => S76 c a0 h | _ => none
theorem W76_ok : WOk Try.prog 76 W76 := by
  intro c l h r e
  unfold W76 at e
  split at e
  · exact ⟨P76, by rw [S76_eq]; exact e⟩
  · cases e
/- (*quietus/writes.Writes).Take -/
def P77 : Pl := (.n none .z (.n none .z (.n none (.n none .z (.n none (.n (some [13, 12, 11, 5, 0]) .z .z) .z)) .z)))
def S77 (c : CV) (a0 a1 : AV) (h : AH) : R :=
pCall c (.fn 78 [] []) [a0] h fun v0 h1 =>
pLenS a1 fun v2 =>
loopC (σ := AV × AV × AV × AV × AV × Unit) NN (fun i6 s3 h4 d5 =>
pInt .lss s3.1 s3.2.1 fun v7 =>
pCond v7 (
pIdxS s3.2.2.1 s3.1 2 fun v8 =>
pLoadN h4 v8 2 fun v9 =>
pBox h4 83 (.agg [(.int .i64 (.ofNat 0)), (.int .u64 (.ofNat 0))]) fun v10 h11 =>
pStore h11 v10 v9 2 fun h12 =>
pFieldA v10 0 fun v13 =>
pLoad1 h12 v13 fun v14 =>
pFieldA v10 1 fun v15 =>
pLoad1 h12 v15 fun v16 =>
pCall c (.fn 96 [] []) [s3.2.2.2.2.1, v14, v16] h12 fun v17 h18 =>
pInt .neq v17 (.int .i64 (.ofNat 0)) fun v19 =>
pCond v19 (
pNil s3.2.2.2.2.1 fun v20 =>
pFieldA v20 1 fun v21 =>
pStore h18 v21 s3.2.2.2.1 1 fun h22 =>
pLeave d5 h22 fun h23 =>
some (v17, h23)) (
pInt .add s3.1 (.int .i64 (.ofNat 1)) fun v24 =>
i6 (v24, s3.2.1, s3.2.2.1, s3.2.2.2.1, s3.2.2.2.2.1, ()) h18 d5)) (
pLeave d5 h4 fun h25 =>
some ((.int .i64 (.ofNat 0)), h25))) ((.int .i64 (.ofNat 0)), v2, a1, v0, a0, ()) h1 []
theorem S77_eq (c : CV) (a0 a1 : AV) (h : AH) : enterK Try.prog NN P77 c 77 [a0, a1] h = S77 c a0 a1 h := by kernel_rfl
def W77 (c : CV) (l : List AV) (h : AH) : R := match l with | [a0, a1] => S77 c a0 a1 h | _ => none
theorem W77_ok : WOk Try.prog 77 W77 := by
  intro c l h r e
  unfold W77 at e
  split at e
  · exact ⟨P77, by rw [S77_eq]; exact e⟩
  · cases e
/- (*quietus/writes.Writes).All -/
def P78 : Pl := .z
def S78 (c : CV) (a0 : AV) (h : AH) : R :=
pNil a0 fun v0 =>
pFieldA v0 1 fun v1 =>
pLoad1 h v1 fun v2 =>
pCall c (.fn 97 [] []) [v2] h fun v3 h4 =>
some (v3, h4)
theorem S78_eq (c : CV) (a0 : AV) (h : AH) : enterK Try.prog NN P78 c 78 [a0] h = S78 c a0 h := by kernel_rfl
def W78 (c : CV) (l : List AV) (h : AH) : R := match l with | [a0] => S78 c a0 h | _ => none
theorem W78_ok : WOk Try.prog 78 W78 := by
  intro c l h r e
  unfold W78 at e
  split at e
  · exact ⟨P78, by rw [S78_eq]; exact e⟩
  · cases e
/- quietus/levels.fresh -/
def P90 : Pl := .z
def S90 (c : CV) (h : AH) : R :=
pCall c (.fn 76 [] []) [(.int .i64 (.ofNat 96))] h fun v0 h1 =>
pBuild [.nilp, .nils] [(0, 1, v0)] fun v2 =>
pBox h1 122 v2 fun v3 h4 =>
some (v3, h4)
theorem S90_eq (c : CV) (h : AH) : enterK Try.prog NN P90 c 90 [] h = S90 c h := by kernel_rfl
def W90 (c : CV) (l : List AV) (h : AH) : R := match l with | [] => S90 c h | _ => none
theorem W90_ok : WOk Try.prog 90 W90 := by
  intro c l h r e
  unfold W90 at e
  split at e
  · exact ⟨P90, by rw [S90_eq]; exact e⟩
  · cases e
/- (*quietus/writes.Writes).Get -/
def P92 : Pl := .z
def S92 (c : CV) (a0 a1 : AV) (h : AH) : R :=
pCall c (.fn 100 [] []) [a0, a1] h fun v0 h1 =>
pInt .geq v0 (.int .i64 (.ofNat 0)) fun v2 =>
pCond v2 (
pNil a0 fun v3 =>
pFieldA v3 1 fun v4 =>
pLoad1 h1 v4 fun v5 =>
pIdxS v5 v0 2 fun v6 =>
pFieldA v6 1 fun v7 =>
pLoad1 h1 v7 fun v8 =>
some ((.tup [v8, (.bool true)]), h1)) (
some ((.tup [(.int .u64 (.ofNat 0)), (.bool false)]), h1))
theorem S92_eq (c : CV) (a0 a1 : AV) (h : AH) : enterK Try.prog NN P92 c 92 [a0, a1] h = S92 c a0 a1 h := by kernel_rfl
def W92 (c : CV) (l : List AV) (h : AH) : R := match l with | [a0, a1] => S92 c a0 a1 h | _ => none
theorem W92_ok : WOk Try.prog 92 W92 := by
  intro c l h r e
  unfold W92 at e
  split at e
  · exact ⟨P92, by rw [S92_eq]; exact e⟩
  · cases e
/- (*quietus/levels.Levels).in -/
def P93 : Pl := .z
def S93 (_ : CV) (a0 : AV) (h : AH) : R :=
pNil a0 fun v0 =>
pFieldA v0 1 fun v1 =>
pLoad1 h v1 fun v2 =>
pNil a0 fun v3 =>
pFieldA v3 1 fun v4 =>
pLoad1 h v4 fun v5 =>
pLenS v5 fun v6 =>
pInt .sub v6 (.int .i64 (.ofNat 1)) fun v7 =>
pIdxS v2 v7 1 fun v8 =>
pLoad1 h v8 fun v9 =>
some (v9, h)
theorem S93_eq (c : CV) (a0 : AV) (h : AH) : enterK Try.prog NN P93 c 93 [a0] h = S93 c a0 h := by kernel_rfl
def W93 (c : CV) (l : List AV) (h : AH) : R := match l with | [a0] => S93 c a0 h | _ => none
theorem W93_ok : WOk Try.prog 93 W93 := by
  intro c l h r e
  unfold W93 at e
  split at e
  · exact ⟨P93, by rw [S93_eq]; exact e⟩
  · cases e
/- (*quietus/levels.Levels).Put -/
def P94 : Pl := (.n none .z (.n none (.n none (.r [[14, 12, 2, 1, 0]]) .z) (.n none .z (.n none (.n none .z (.n none (.r [[32, 29, 7, 2, 1]]) .z)) .z))))
def S94 (c : CV) (a0 a1 a2 : AV) (h : AH) : R :=
pInt .lss a1 (.int .i64 (.ofNat 1)) fun v0 =>
joinC (α := AV × AV × AV × AV × AV × Unit → AH → R) (fun s1 h2 =>
pPick s1.2.1 (.bool true) s1.1 fun v4 =>
pCond v4 (
some ((.int .i64 (.ofNat 2)), h2)) (
pCall c (.fn 93 [] []) [s1.2.2.2.2.1] h2 fun v5 h6 =>
pNil v5 fun v7 =>
pFieldA v7 0 fun v8 =>
pLoad1 h6 v8 fun v9 =>
pCall c (.fn 92 [] []) [v9, s1.2.2.2.1] h6 fun v10 h11 =>
pExtract v10 0 fun _ =>
pExtract v10 1 fun v13 =>
pUn .not v13 fun v14 =>
joinC (α := AV × AV × AV × AV × AV × Unit → AH → R) (fun s15 h16 =>
pPick s15.2.1 s15.1 (.bool false) fun v18 =>
pCond v18 (
some ((.int .i64 (.ofNat 5)), h16)) (
pCall c (.fn 96 [] []) [s15.2.2.1, s15.2.2.2.2.1, s15.2.2.2.1] h16 fun v19 h20 =>
some (v19, h20))) fun j17 =>
pWant v14 true (
pCall c (.fn 101 [] []) [s1.2.2.2.2.1] h11 fun v21 h22 =>
pInt .eql v21 (.int .i64 (.ofNat 0)) fun v23 =>
j17 (v23, v14, v9, s1.2.2.1, s1.2.2.2.1, ()) h22) (
j17 (.undef, v14, v9, s1.2.2.1, s1.2.2.2.1, ()) h11))) fun j3 =>
pWant v0 false (
pInt .geq a1 (.int .i64 (.ofNat 256)) fun v24 =>
j3 (v24, v0, a2, a1, a0, ()) h) (
j3 (.undef, v0, a2, a1, a0, ()) h)
theorem S94_eq (c : CV) (a0 a1 a2 : AV) (h : AH) : enterK Try.prog NN P94 c 94 [a0, a1, a2] h = S94 c a0 a1 a2 h := by kernel_rfl
def W94 (c : CV) (l : List AV) (h : AH) : R := match l with | [a0, a1, a2] => S94 c a0 a1 a2 h | _ => none
theorem W94_ok : WOk Try.prog 94 W94 := by
  intro c l h r e
  unfold W94 at e
  split at e
  · exact ⟨P94, by rw [S94_eq]; exact e⟩
  · cases e
/- slices.Backward[[]*quietus/levels.level,*quietus/levels.level]$1 -/
def P95 : Pl := (.n none .z (.n none (.n (some [3, 1, 0]) .z .z) .z))
def S95 (c : CV) (a0 a1 : AV) (h : AH) : R :=
pLoad1 h a1 fun v0 =>
pLenS v0 fun v1 =>
pInt .sub v1 (.int .i64 (.ofNat 1)) fun v2 =>
loopC (σ := AV × AV × AV × Unit) NN (fun i6 s3 h4 d5 =>
pInt .geq s3.1 (.int .i64 (.ofNat 0)) fun v7 =>
pCond v7 (
pLoad1 h4 s3.2.1 fun v8 =>
pIdxS v8 s3.1 1 fun v9 =>
pLoad1 h4 v9 fun v10 =>
pCall c s3.2.2.1 [s3.1, v10] h4 fun v11 h12 =>
pUn .not v11 fun v13 =>
pCond v13 (
pLeave d5 h12 fun h14 =>
some ((.tup []), h14)) (
pInt .sub s3.1 (.int .i64 (.ofNat 1)) fun v15 =>
i6 (v15, s3.2.1, s3.2.2.1, ()) h12 d5)) (
pLeave d5 h4 fun h16 =>
some ((.tup []), h16))) (v2, a1, a0, ()) h []
theorem S95_eq (c : CV) (a0 a1 : AV) (h : AH) : enterK Try.prog NN P95 c 95 [a0, a1] h = S95 c a0 a1 h := by kernel_rfl
def W95 (c : CV) (l : List AV) (h : AH) : R := match l with | [a0, a1] => S95 c a0 a1 h | _ => none
theorem W95_ok : WOk Try.prog 95 W95 := by
  intro c l h r e
  unfold W95 at e
  split at e
  · exact ⟨P95, by rw [S95_eq]; exact e⟩
  · cases e
/- (*quietus/writes.Writes).Put -/
def P96 : Pl := (.n none .z (.n none (.n none (.r [[12, 10, 2, 1, 0]]) .z) .z))
def S96 (c : CV) (a0 a1 a2 : AV) (h : AH) : R :=
pInt .lss a1 (.int .i64 (.ofNat 1)) fun v0 =>
joinC (α := AV × AV × AV × AV × AV × Unit → AH → R) (fun s1 h2 =>
pPick s1.2.1 (.bool true) s1.1 fun v4 =>
pCond v4 (
some ((.int .i64 (.ofNat 2)), h2)) (
pCall c (.fn 100 [] []) [s1.2.2.2.2.1, s1.2.2.2.1] h2 fun v5 h6 =>
pInt .geq v5 (.int .i64 (.ofNat 0)) fun v7 =>
pCond v7 (
pNil s1.2.2.2.2.1 fun v8 =>
pFieldA v8 1 fun v9 =>
pLoad1 h6 v9 fun v10 =>
pIdxS v10 v5 2 fun v11 =>
pFieldA v11 1 fun v12 =>
pStore h6 v12 s1.2.2.1 1 fun h13 =>
some ((.int .i64 (.ofNat 0)), h13)) (
pNil s1.2.2.2.2.1 fun v14 =>
pFieldA v14 1 fun v15 =>
pLoad1 h6 v15 fun v16 =>
pLenS v16 fun v17 =>
pNil s1.2.2.2.2.1 fun v18 =>
pFieldA v18 0 fun v19 =>
pLoad1 h6 v19 fun v20 =>
pInt .geq v17 v20 fun v21 =>
pCond v21 (
some ((.int .i64 (.ofNat 5)), h6)) (
pNil s1.2.2.2.2.1 fun v22 =>
pFieldA v22 1 fun v23 =>
pLoad1 h6 v23 fun v24 =>
pBuild [(.int .i64 (.ofNat 0)), (.int .u64 (.ofNat 0))] [(0, 1, s1.2.2.2.1), (1, 1, s1.2.2.1)] fun v25 =>
pBuildS h6 83 [(.int .i64 (.ofNat 0)), (.int .u64 (.ofNat 0))] 1 [(0, 2, v25)] fun v26 h27 =>
pAppend h27 83 2 v24 v26 fun v28 h29 =>
pNil s1.2.2.2.2.1 fun v30 =>
pFieldA v30 1 fun v31 =>
pStore h29 v31 v28 1 fun h32 =>
some ((.int .i64 (.ofNat 0)), h32))))) fun j3 =>
pWant v0 false (
pInt .geq a1 (.int .i64 (.ofNat 256)) fun v33 =>
j3 (v33, v0, a2, a1, a0, ()) h) (
j3 (.undef, v0, a2, a1, a0, ()) h)
theorem S96_eq (c : CV) (a0 a1 a2 : AV) (h : AH) : enterK Try.prog NN P96 c 96 [a0, a1, a2] h = S96 c a0 a1 a2 h := by kernel_rfl
def W96 (c : CV) (l : List AV) (h : AH) : R := match l with | [a0, a1, a2] => S96 c a0 a1 a2 h | _ => none
theorem W96_ok : WOk Try.prog 96 W96 := by
  intro c l h r e
  unfold W96 at e
  split at e
  · exact ⟨P96, by rw [S96_eq]; exact e⟩
  · cases e
/- slices.Clone[[]quietus/api.Cell,quietus/api.Cell] -/
def P97 : Pl := .z
def S97 (_ : CV) (a0 : AV) (h : AH) : R :=
pEq .slc false a0 .nils fun v0 =>
pCond v0 (
some (.nils, h)) (
pBuildS h 83 [(.int .i64 (.ofNat 0)), (.int .u64 (.ofNat 0))] 0 [] fun v1 h2 =>
pAppend h2 83 2 v1 a0 fun v3 h4 =>
some (v3, h4))
theorem S97_eq (c : CV) (a0 : AV) (h : AH) : enterK Try.prog NN P97 c 97 [a0] h = S97 c a0 h := by kernel_rfl
def W97 (c : CV) (l : List AV) (h : AH) : R := match l with | [a0] => S97 c a0 h | _ => none
theorem W97_ok : WOk Try.prog 97 W97 := by
  intro c l h r e
  unfold W97 at e
  split at e
  · exact ⟨P97, by rw [S97_eq]; exact e⟩
  · cases e
/- (*quietus/writes.Writes).find -/
def P100 : Pl := .z
def S100 (c : CV) (a0 a1 : AV) (h : AH) : R :=
pBox h 3 a1 fun v0 h1 =>
pNil a0 fun v2 =>
pFieldA v2 1 fun v3 =>
pLoad1 h1 v3 fun v4 =>
pCall c (.fn 103 [] []) [v4, (.fn 104 [] [v0])] h1 fun v5 h6 =>
some (v5, h6)
theorem S100_eq (c : CV) (a0 a1 : AV) (h : AH) : enterK Try.prog NN P100 c 100 [a0, a1] h = S100 c a0 a1 h := by kernel_rfl
def W100 (c : CV) (l : List AV) (h : AH) : R := match l with | [a0, a1] => S100 c a0 a1 h | _ => none
theorem W100_ok : WOk Try.prog 100 W100 := by
  intro c l h r e
  unfold W100 at e
  split at e
  · exact ⟨P100, by rw [S100_eq]; exact e⟩
  · cases e
/- (*quietus/levels.Levels).Room -/
def P101 : Pl := (.n none .z (.n none .z (.n none (.n none .z (.n none (.n (some [15, 14, 13, 3]) .z .z) .z)) .z)))
def S101 (c : CV) (a0 : AV) (h : AH) : R :=
pNil a0 fun v0 =>
pFieldA v0 0 fun v1 =>
pLoad1 h v1 fun v2 =>
pNil a0 fun v3 =>
pFieldA v3 1 fun v4 =>
pLoad1 h v4 fun v5 =>
pLenS v5 fun v6 =>
loopC (σ := AV × AV × AV × AV × Unit) NN (fun i10 s7 h8 d9 =>
pInt .lss s7.1 s7.2.1 fun v11 =>
pCond v11 (
pIdxS s7.2.2.1 s7.1 1 fun v12 =>
pLoad1 h8 v12 fun v13 =>
pNil v13 fun v14 =>
pFieldA v14 0 fun v15 =>
pLoad1 h8 v15 fun v16 =>
pCall c (.fn 105 [] []) [v16] h8 fun v17 h18 =>
pInt .sub s7.2.2.2.1 v17 fun v19 =>
pInt .add s7.1 (.int .i64 (.ofNat 1)) fun v20 =>
i10 (v20, s7.2.1, s7.2.2.1, v19, ()) h18 d9) (
pLeave d9 h8 fun h21 =>
some (s7.2.2.2.1, h21))) ((.int .i64 (.ofNat 0)), v6, v5, v2, ()) h []
theorem S101_eq (c : CV) (a0 : AV) (h : AH) : enterK Try.prog NN P101 c 101 [a0] h = S101 c a0 h := by kernel_rfl
def W101 (c : CV) (l : List AV) (h : AH) : R := match l with | [a0] => S101 c a0 h | _ => none
theorem W101_ok : WOk Try.prog 101 W101 := by
  intro c l h r e
  unfold W101 at e
  split at e
  · exact ⟨P101, by rw [S101_eq]; exact e⟩
  · cases e
/- slices.IndexFunc[[]quietus/api.Cell,quietus/api.Cell] -/
def P103 : Pl := (.n none .z (.n none (.n none .z (.n none (.n (some [8, 7, 1, 0]) .z .z) .z)) .z))
def S103 (c : CV) (a0 a1 : AV) (h : AH) : R :=
pLenS a0 fun v0 =>
loopC (σ := AV × AV × AV × AV × Unit) NN (fun i4 s1 h2 d3 =>
pInt .lss s1.1 s1.2.1 fun v5 =>
pCond v5 (
pIdxS s1.2.2.2.1 s1.1 2 fun v6 =>
pLoadN h2 v6 2 fun v7 =>
pCall c s1.2.2.1 [v7] h2 fun v8 h9 =>
pCond v8 (
pLeave d3 h9 fun h10 =>
some (s1.1, h10)) (
pInt .add s1.1 (.int .i64 (.ofNat 1)) fun v11 =>
i4 (v11, s1.2.1, s1.2.2.1, s1.2.2.2.1, ()) h9 d3)) (
pLeave d3 h2 fun h12 =>
some ((.int .i64 (.negSucc 0)), h12))) ((.int .i64 (.ofNat 0)), v0, a1, a0, ()) h []
theorem S103_eq (c : CV) (a0 a1 : AV) (h : AH) : enterK Try.prog NN P103 c 103 [a0, a1] h = S103 c a0 a1 h := by kernel_rfl
def W103 (c : CV) (l : List AV) (h : AH) : R := match l with | [a0, a1] => S103 c a0 a1 h | _ => none
theorem W103_ok : WOk Try.prog 103 W103 := by
  intro c l h r e
  unfold W103 at e
  split at e
  · exact ⟨P103, by rw [S103_eq]; exact e⟩
  · cases e
/- (*quietus/writes.Writes).find$1 -/
def P104 : Pl := .z
def S104 (_ : CV) (a0 a1 : AV) (h : AH) : R :=
pBox h 83 a0 fun v0 h1 =>
pFieldA v0 0 fun v2 =>
pLoad1 h1 v2 fun v3 =>
pLoad1 h1 a1 fun v4 =>
pInt .eql v3 v4 fun v5 =>
some (v5, h1)
theorem S104_eq (c : CV) (a0 a1 : AV) (h : AH) : enterK Try.prog NN P104 c 104 [a0, a1] h = S104 c a0 a1 h := by kernel_rfl
def W104 (c : CV) (l : List AV) (h : AH) : R := match l with | [a0, a1] => S104 c a0 a1 h | _ => none
theorem W104_ok : WOk Try.prog 104 W104 := by
  intro c l h r e
  unfold W104 at e
  split at e
  · exact ⟨P104, by rw [S104_eq]; exact e⟩
  · cases e
/- (*quietus/writes.Writes).Len -/
def P105 : Pl := .z
def S105 (_ : CV) (a0 : AV) (h : AH) : R :=
pNil a0 fun v0 =>
pFieldA v0 1 fun v1 =>
pLoad1 h v1 fun v2 =>
pLenS v2 fun v3 =>
some (v3, h)
theorem S105_eq (c : CV) (a0 : AV) (h : AH) : enterK Try.prog NN P105 c 105 [a0] h = S105 c a0 h := by kernel_rfl
def W105 (c : CV) (l : List AV) (h : AH) : R := match l with | [a0] => S105 c a0 h | _ => none
theorem W105_ok : WOk Try.prog 105 W105 := by
  intro c l h r e
  unfold W105 at e
  split at e
  · exact ⟨P105, by rw [S105_eq]; exact e⟩
  · cases e
/- (*quietus/levels.Levels).Get: a round -/
def Q0 : Pl := (.n none .z .z)
def B0 (c : CV) (l : Nat) (v0 v1 v2 _ a1 : AV) (h : AH) : R :=
pBegin h l fun h100 =>
pNil a1 fun v101 =>
pFieldA v101 0 fun v102 =>
pLoad1 h100 v102 fun v103 =>
pLoad1 h100 v2 fun v104 =>
pCall c (.fn 92 [] []) [v103, v104] h100 fun v105 h106 =>
pExtract v105 0 fun v107 =>
pExtract v105 1 fun v108 =>
pCond v108 (
pStore h106 v1 v107 1 fun h109 =>
pStore h109 v0 (.bool true) 1 fun h110 =>
pEndRound h110 l (some .ret)) (
pEndRound h106 l none)
theorem B0_eq (c : CV) (l : Nat) (v0 v1 v2 a0 a1 : AV) (h : AH) : roundK Try.prog NN Q0 c 72 [1, 0, 1, 0] [5, 4, 3] l [v0, v1, v2] [a0, a1] h = B0 c l v0 v1 v2 a0 a1 h := by kernel_rfl
def V0 (c : CV) (l : Nat) (x y : List AV) (h : AH) : R := match x, y with | [v0, v1, v2], [a0, a1] => B0 c l v0 v1 v2 a0 a1 h | _, _ => none
theorem V0_ok : VOk Try.prog 72 [1, 0, 1, 0] [5, 4, 3] V0 := by
  intro c l x y h r e
  unfold V0 at e
  split at e
  · exact ⟨Q0, by rw [B0_eq]; exact e⟩
  · cases e
end
end Go.Proofs.Ytaepnpodenmmoaa
