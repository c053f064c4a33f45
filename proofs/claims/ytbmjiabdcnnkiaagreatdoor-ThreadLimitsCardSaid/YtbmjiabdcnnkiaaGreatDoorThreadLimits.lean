/- 'ThreadLimits' comes to true for every argument: the runs of each kind of arguments. -/
import Derived.Test.YtbmjiabdcnnkiaaGreatDoorThreadLimN
import Derived.Test.YtbmjiabdcnnkiaaGreatDoorThreadLim0
import Derived.Test.YtbmjiabdcnnkiaaGreatDoorThreadLim1
import Derived.Test.YtbmjiabdcnnkiaaGreatDoorThreadLim2
import Derived.Test.YtbmjiabdcnnkiaaGreatDoorThreadLim3
import Derived.Test.YtbmjiabdcnnkiaaGreatDoorThreadLimP
namespace Go.Proofs.YtbmjiabdcnnkiaaGreatDoor.threadLimits
open Go Go.Ae
set_option maxRecDepth 100000

theorem wp_true {r : Go.Ae.R} (h : isTrue r = true) : wp r fun v _ => v = .bool true := by
  match r, h with
  | some (.bool true, h'), _ => exact ⟨_, h', rfl, rfl⟩
/-- the number of jobs stands in the program by what is left of it by twelve -/
theorem jobs {n : Int} {r : Nat} (h : n.tmod 12 = (r : Int)) (hr : r < 12) (c : CV) (me : AV) (h0 : AH) : S4 c (.int .u8 n) me h0 = S4 c (.int .u8 (.ofNat r)) me h0 := by
  have e : ∀ K : AV → Go.Ae.R, pInt .rem (.int .u8 n) (.int .u8 (.ofNat 12)) K = pInt .rem (.int .u8 (.ofNat r)) (.int .u8 (.ofNat 12)) K := by
    intro K
    rw [pInt_k, pInt_k]
    have h2 : Int.tmod (Int.ofNat r) (Int.ofNat 12) = Int.ofNat r := by
      show Int.tmod ((r : Nat) : Int) ((12 : Nat) : Int) = ((r : Nat) : Int)
      rw [Int.tmod_eq_emod_of_nonneg (by omega)]; omega
    have h3 : Int.tmod n (Int.ofNat 12) = Int.ofNat r := h
    simp only [aint, h2, h3]
  unfold S4
  simp only [e]
theorem law {n me : Int} (hn : 0 ≤ n ∧ n ≤ 255) : wp (W4 (withRun 3 (callT tab rtab 60)) [.int .u8 n, .int .i64 me] AH.empty) fun v _ => v = .bool true := by
  have h1 := Int.tmod_nonneg (12 : Int) hn.1
  have h2 := Int.tmod_lt_of_pos n (show (0 : Int) < 12 by omega)
  obtain ⟨r, hr⟩ : ∃ r : Nat, n.tmod 12 = (r : Int) := ⟨(n.tmod 12).toNat, by omega⟩
  have hr12 : r < 12 := by omega
  show wp (S4 _ _ _ _) _
  rw [jobs hr hr12]
  show wp (W4 (withRun 3 (callT tab rtab 60)) [.int .u8 (.ofNat r), .int .i64 me] AH.empty) fun v _ => v = .bool true
  refine wp_true ?_
  clear hr h1 h2 hn
  have hc : r = 0 ∨ r = 1 ∨ r = 2 ∨ r = 3 ∨ r = 4 ∨ r = 5 ∨ r = 6 ∨ r = 7 ∨ r = 8 ∨ r = 9 ∨ r = 10 ∨ r = 11 := by omega
  match me with
  | .negSucc m =>
    rcases hc with rfl | rfl | rfl | rfl | rfl | rfl | rfl | rfl | rfl | rfl | rfl | rfl
    · exact runN_0 m
    · exact runN_1 m
    · exact runN_2 m
    · exact runN_3 m
    · exact runN_4 m
    · exact runN_5 m
    · exact runN_6 m
    · exact runN_7 m
    · exact runN_8 m
    · exact runN_9 m
    · exact runN_10 m
    · exact runN_11 m
  | .ofNat 0 =>
    rcases hc with rfl | rfl | rfl | rfl | rfl | rfl | rfl | rfl | rfl | rfl | rfl | rfl
    · exact run0_0
    · exact run0_1
    · exact run0_2
    · exact run0_3
    · exact run0_4
    · exact run0_5
    · exact run0_6
    · exact run0_7
    · exact run0_8
    · exact run0_9
    · exact run0_10
    · exact run0_11
  | .ofNat 1 =>
    rcases hc with rfl | rfl | rfl | rfl | rfl | rfl | rfl | rfl | rfl | rfl | rfl | rfl
    · exact run1_0
    · exact run1_1
    · exact run1_2
    · exact run1_3
    · exact run1_4
    · exact run1_5
    · exact run1_6
    · exact run1_7
    · exact run1_8
    · exact run1_9
    · exact run1_10
    · exact run1_11
  | .ofNat 2 =>
    rcases hc with rfl | rfl | rfl | rfl | rfl | rfl | rfl | rfl | rfl | rfl | rfl | rfl
    · exact run2_0
    · exact run2_1
    · exact run2_2
    · exact run2_3
    · exact run2_4
    · exact run2_5
    · exact run2_6
    · exact run2_7
    · exact run2_8
    · exact run2_9
    · exact run2_10
    · exact run2_11
  | .ofNat 3 =>
    rcases hc with rfl | rfl | rfl | rfl | rfl | rfl | rfl | rfl | rfl | rfl | rfl | rfl
    · exact run3_0
    · exact run3_1
    · exact run3_2
    · exact run3_3
    · exact run3_4
    · exact run3_5
    · exact run3_6
    · exact run3_7
    · exact run3_8
    · exact run3_9
    · exact run3_10
    · exact run3_11
  | .ofNat (m + 4) =>
    rcases hc with rfl | rfl | rfl | rfl | rfl | rfl | rfl | rfl | rfl | rfl | rfl | rfl
    · exact runP_0 m
    · exact runP_1 m
    · exact runP_2 m
    · exact runP_3 m
    · exact runP_4 m
    · exact runP_5 m
    · exact runP_6 m
    · exact runP_7 m
    · exact runP_8 m
    · exact runP_9 m
    · exact runP_10 m
    · exact runP_11 m

theorem told {h : AH} {l : List AV} (H : WTs Tryz.prog h 8 Tryz.f4.params.toList l) : inDs (fun _ => False) l ∧ wp (W4 (withRun 3 (callT tab rtab 60)) l AH.empty) fun v _ => v = .bool true := by
  have e : Tryz.f4.params.toList = [5, 3] := by kernel_rfl
  rw [e] at H
  obtain ⟨a0, a1, rfl, H0, H1⟩ := WTs2 H
  simp only [WTV, Tryz.underlying3, Tryz.underlying4, Tryz.underlying5] at H0 H1
  unfold WT at H0 H1
  simp only [Tryz.underlying3, Tryz.underlying4, Tryz.underlying5] at H0 H1
  obtain ⟨n, hn, c0⟩ := H0
  obtain ⟨m, hm, _⟩ := H1
  cases hn; cases hm
  exact ⟨by simp [inDs, inD], law c0⟩
end Go.Proofs.YtbmjiabdcnnkiaaGreatDoor.threadLimits
