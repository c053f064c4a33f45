/- 'ArenaClasses' comes to true for every number: its own walk. -/
import Derived.Test.YtaepnpodenmmoaaAe7
import Derived.Test.YtaepnpodenmmoaaT
import Derived.KernelRfl
namespace Go.Proofs.Ytaepnpodenmmoaa.arenaClasses
open Go Go.Ae
set_option maxRecDepth 100000

def sizeZ (x : Int) : Int := if x = 1 then 2 else if x = 2 then 4 else if x = 3 then 8 else if x = 4 then 16 else 0
def classZ (x : Int) : Int := if x < 1 then 0 else if x ≤ 2 then 1 else if x ≤ 4 then 2 else if x ≤ 8 then 3 else if x ≤ 16 then 4 else 0

theorem size_ok {n : Nat} (hn : 1 ≤ n) {x : Int} {h : AH} : wp (callT tab rtab n (.fn 17 [] []) [.int .i64 x] h) fun v h' => v = .int .i64 (sizeZ x) ∧ h' = h := by
  refine ww_fn (g := W17) rfl (by omega) fun k hk => ?_
  show wp (S17 (callT tab rtab k) _ _) _
  unfold S17
  simp only [Int.ofNat_eq_natCast]
  repeat' (first | with_reducible refine ww_condT ?_ | with_reducible refine ww_condF ?_ | (with_reducible refine ww_wantTT ?_; try dsimp only) | (with_reducible refine ww_wantTF ?_; try dsimp only) | (with_reducible refine ww_wantFT ?_; try dsimp only) | (with_reducible refine ww_wantFF ?_; try dsimp only) | (with_reducible refine ww_wantU ?_; try dsimp only) | with_reducible refine ww_pickT ?_ | with_reducible refine ww_pickF ?_ | (with_reducible refine ww_joinS ?_; try dsimp only) | with_reducible refine ww_leave ?_ | with_reducible refine ww_notT ?_ | with_reducible refine ww_notF ?_ | with_reducible refine ww_addI (by omega) ?_ | with_reducible refine ww_subI (by omega) ?_ | with_reducible refine ww_addU (by omega) ?_ | with_reducible refine ww_subU (by omega) ?_ | with_reducible refine ww_min ?_ | with_reducible refine ww_max ?_ | with_reducible refine ww_lssC (fun hc => ?_) (fun hc => ?_) | with_reducible refine ww_leqC (fun hc => ?_) (fun hc => ?_) | with_reducible refine ww_gtrC (fun hc => ?_) (fun hc => ?_) | with_reducible refine ww_geqC (fun hc => ?_) (fun hc => ?_) | with_reducible refine ww_eqlC (fun hc => ?_) (fun hc => ?_) | with_reducible refine ww_neqC (fun hc => ?_) (fun hc => ?_) | with_reducible refine ww_condB (fun hc => ?_) (fun hc => ?_))
  · refine ww_ret ⟨?_, rfl⟩
    unfold sizeZ; congr 1; repeat' split <;> omega
  · refine ww_ret ⟨?_, rfl⟩
    unfold sizeZ; congr 1; repeat' split <;> omega
  · refine ww_shl (by omega) ?_
    refine ww_ret ⟨?_, rfl⟩
    rcases (show x = 1 ∨ x = 2 ∨ x = 3 ∨ x = 4 by omega) with rfl | rfl | rfl | rfl <;> rfl

theorem class_ok {n : Nat} (hn : 2 ≤ n) {x : Int} {h : AH} : wp (callT tab rtab n (.fn 16 [] []) [.int .i64 x] h) fun v h' => v = .int .i64 (classZ x) ∧ h' = h := by
  refine ww_fn (g := W16) rfl (by omega) fun k hk => ?_
  show wp (S16 (callT tab rtab k) _ _) _
  unfold S16
  simp only [Int.ofNat_eq_natCast]
  repeat' (first | with_reducible refine ww_condT ?_ | with_reducible refine ww_condF ?_ | (with_reducible refine ww_wantTT ?_; try dsimp only) | (with_reducible refine ww_wantTF ?_; try dsimp only) | (with_reducible refine ww_wantFT ?_; try dsimp only) | (with_reducible refine ww_wantFF ?_; try dsimp only) | (with_reducible refine ww_wantU ?_; try dsimp only) | with_reducible refine ww_pickT ?_ | with_reducible refine ww_pickF ?_ | (with_reducible refine ww_joinS ?_; try dsimp only) | with_reducible refine ww_leave ?_ | with_reducible refine ww_notT ?_ | with_reducible refine ww_notF ?_ | with_reducible refine ww_addI (by omega) ?_ | with_reducible refine ww_subI (by omega) ?_ | with_reducible refine ww_addU (by omega) ?_ | with_reducible refine ww_subU (by omega) ?_ | with_reducible refine ww_min ?_ | with_reducible refine ww_max ?_ | with_reducible refine ww_lssC (fun hc => ?_) (fun hc => ?_) | with_reducible refine ww_leqC (fun hc => ?_) (fun hc => ?_) | with_reducible refine ww_gtrC (fun hc => ?_) (fun hc => ?_) | with_reducible refine ww_geqC (fun hc => ?_) (fun hc => ?_) | with_reducible refine ww_eqlC (fun hc => ?_) (fun hc => ?_) | with_reducible refine ww_neqC (fun hc => ?_) (fun hc => ?_) | with_reducible refine ww_condB (fun hc => ?_) (fun hc => ?_))
  · refine ww_ret ⟨?_, rfl⟩
    unfold classZ; congr 1; repeat' split <;> omega
  · refine ww_loop (fun m s g => ∃ i : Int, s = (.int .i64 i, .int .i64 x, ()) ∧ 1 ≤ i ∧ i ≤ 5 ∧ (m : Int) = 5 - i ∧ g = h ∧ (1 < i → 2 < x) ∧ (2 < i → 4 < x) ∧ (3 < i → 8 < x) ∧ (4 < i → 16 < x)) ?_ (m := 4) (by decide) ⟨1, rfl, by omega, by omega, by omega, rfl, by omega, by omega, by omega, by omega⟩
    rintro m ih s g hih ⟨i, rfl, h1, h2, h3, rfl, h4, h5, h6, h7⟩
    dsimp only
    repeat' (first | with_reducible refine ww_condT ?_ | with_reducible refine ww_condF ?_ | (with_reducible refine ww_wantTT ?_; try dsimp only) | (with_reducible refine ww_wantTF ?_; try dsimp only) | (with_reducible refine ww_wantFT ?_; try dsimp only) | (with_reducible refine ww_wantFF ?_; try dsimp only) | (with_reducible refine ww_wantU ?_; try dsimp only) | with_reducible refine ww_pickT ?_ | with_reducible refine ww_pickF ?_ | (with_reducible refine ww_joinS ?_; try dsimp only) | with_reducible refine ww_leave ?_ | with_reducible refine ww_notT ?_ | with_reducible refine ww_notF ?_ | with_reducible refine ww_addI (by omega) ?_ | with_reducible refine ww_subI (by omega) ?_ | with_reducible refine ww_addU (by omega) ?_ | with_reducible refine ww_subU (by omega) ?_ | with_reducible refine ww_min ?_ | with_reducible refine ww_max ?_ | with_reducible refine ww_lssC (fun hc => ?_) (fun hc => ?_) | with_reducible refine ww_leqC (fun hc => ?_) (fun hc => ?_) | with_reducible refine ww_gtrC (fun hc => ?_) (fun hc => ?_) | with_reducible refine ww_geqC (fun hc => ?_) (fun hc => ?_) | with_reducible refine ww_eqlC (fun hc => ?_) (fun hc => ?_) | with_reducible refine ww_neqC (fun hc => ?_) (fun hc => ?_) | with_reducible refine ww_condB (fun hc => ?_) (fun hc => ?_))
    · refine ww_call (size_ok (by omega)) ?_
      rintro v g' ⟨rfl, rfl⟩
      repeat' (first | with_reducible refine ww_condT ?_ | with_reducible refine ww_condF ?_ | (with_reducible refine ww_wantTT ?_; try dsimp only) | (with_reducible refine ww_wantTF ?_; try dsimp only) | (with_reducible refine ww_wantFT ?_; try dsimp only) | (with_reducible refine ww_wantFF ?_; try dsimp only) | (with_reducible refine ww_wantU ?_; try dsimp only) | with_reducible refine ww_pickT ?_ | with_reducible refine ww_pickF ?_ | (with_reducible refine ww_joinS ?_; try dsimp only) | with_reducible refine ww_leave ?_ | with_reducible refine ww_notT ?_ | with_reducible refine ww_notF ?_ | with_reducible refine ww_addI (by omega) ?_ | with_reducible refine ww_subI (by omega) ?_ | with_reducible refine ww_addU (by omega) ?_ | with_reducible refine ww_subU (by omega) ?_ | with_reducible refine ww_min ?_ | with_reducible refine ww_max ?_ | with_reducible refine ww_lssC (fun hc => ?_) (fun hc => ?_) | with_reducible refine ww_leqC (fun hc => ?_) (fun hc => ?_) | with_reducible refine ww_gtrC (fun hc => ?_) (fun hc => ?_) | with_reducible refine ww_geqC (fun hc => ?_) (fun hc => ?_) | with_reducible refine ww_eqlC (fun hc => ?_) (fun hc => ?_) | with_reducible refine ww_neqC (fun hc => ?_) (fun hc => ?_) | with_reducible refine ww_condB (fun hc => ?_) (fun hc => ?_))
      · refine ww_ret ⟨?_, rfl⟩
        unfold sizeZ at *; unfold classZ; congr 1; repeat' split <;> omega
      · refine hih (m - 1) _ _ (by omega) ⟨i + 1, rfl, by omega, by omega, by omega, rfl, ?_, ?_, ?_, ?_⟩ <;> (unfold sizeZ at *; repeat' split at * <;> omega)
    · refine ww_ret ⟨?_, rfl⟩
      unfold classZ; congr 1; repeat' split <;> omega

theorem law {k : Nat} (hk : 3 ≤ k) {x : Int} (hx : -9223372036854775808 ≤ x ∧ x ≤ 9223372036854775807) {h : AH} : wp (W4 (withRun 3 (callT tab rtab k)) [.int .i64 x] h) fun v _ => v = .bool true := by
  show wp (S4 (withRun _ (callT tab rtab _)) _ _) _
  unfold S4
  simp only [Int.ofNat_eq_natCast]
  refine ww_run ?_
  repeat (first | with_reducible refine ww_condT ?_ | with_reducible refine ww_condF ?_ | (with_reducible refine ww_wantTT ?_; try dsimp only) | (with_reducible refine ww_wantTF ?_; try dsimp only) | (with_reducible refine ww_wantFT ?_; try dsimp only) | (with_reducible refine ww_wantFF ?_; try dsimp only) | (with_reducible refine ww_wantU ?_; try dsimp only) | with_reducible refine ww_pickT ?_ | with_reducible refine ww_pickF ?_ | (with_reducible refine ww_joinS ?_; try dsimp only) | with_reducible refine ww_leave ?_ | with_reducible refine ww_notT ?_ | with_reducible refine ww_notF ?_ | with_reducible refine ww_addI (by omega) ?_ | with_reducible refine ww_subI (by omega) ?_ | with_reducible refine ww_addU (by omega) ?_ | with_reducible refine ww_subU (by omega) ?_ | with_reducible refine ww_min ?_ | with_reducible refine ww_max ?_)
  refine ww_callZ (by decide) (class_ok (by omega)) ?_
  rintro v h' ⟨rfl, rfl⟩
  have hc : (x < 1 ∨ 16 < x) ∧ classZ x = 0 ∨ (1 ≤ x ∧ x ≤ 2 ∧ classZ x = 1) ∨ (2 < x ∧ x ≤ 4 ∧ classZ x = 2) ∨ (4 < x ∧ x ≤ 8 ∧ classZ x = 3) ∨ (8 < x ∧ x ≤ 16 ∧ classZ x = 4) := by
    unfold classZ; repeat' split <;> omega
  have hs : (x < 1 ∨ 4 < x) → sizeZ x = 0 := by intro h; unfold sizeZ; repeat' split <;> omega
  have s1 : sizeZ 1 = 2 := rfl
  have s2 : sizeZ 2 = 4 := rfl
  have s3 : sizeZ 3 = 8 := rfl
  have s4 : sizeZ 4 = 16 := rfl
  have t1 : sizeZ (2 - ((1 : Nat) : Int)) = 2 := rfl
  have t2 : sizeZ (3 - ((1 : Nat) : Int)) = 4 := rfl
  have t3 : sizeZ (4 - ((1 : Nat) : Int)) = 8 := rfl
  generalize classZ x = c at *
  rcases hc with ⟨h1, rfl⟩ | ⟨h1, h2, rfl⟩ | ⟨h1, h2, rfl⟩ | ⟨h1, h2, rfl⟩ | ⟨h1, h2, rfl⟩
  all_goals repeat' (first | (first | with_reducible refine ww_condT ?_ | with_reducible refine ww_condF ?_ | (with_reducible refine ww_wantTT ?_; try dsimp only) | (with_reducible refine ww_wantTF ?_; try dsimp only) | (with_reducible refine ww_wantFT ?_; try dsimp only) | (with_reducible refine ww_wantFF ?_; try dsimp only) | (with_reducible refine ww_wantU ?_; try dsimp only) | with_reducible refine ww_pickT ?_ | with_reducible refine ww_pickF ?_ | (with_reducible refine ww_joinS ?_; try dsimp only) | with_reducible refine ww_leave ?_ | with_reducible refine ww_notT ?_ | with_reducible refine ww_notF ?_ | with_reducible refine ww_addI (by omega) ?_ | with_reducible refine ww_subI (by omega) ?_ | with_reducible refine ww_addU (by omega) ?_ | with_reducible refine ww_subU (by omega) ?_ | with_reducible refine ww_min ?_ | with_reducible refine ww_max ?_) | (refine ww_callZ (by decide) (size_ok (by omega)) ?_; rintro v h' ⟨rfl, rfl⟩) | (first | with_reducible refine ww_lssC (fun hc => ?_) (fun hc => ?_) | with_reducible refine ww_leqC (fun hc => ?_) (fun hc => ?_) | with_reducible refine ww_gtrC (fun hc => ?_) (fun hc => ?_) | with_reducible refine ww_geqC (fun hc => ?_) (fun hc => ?_) | with_reducible refine ww_eqlC (fun hc => ?_) (fun hc => ?_) | with_reducible refine ww_neqC (fun hc => ?_) (fun hc => ?_) | with_reducible refine ww_condB (fun hc => ?_) (fun hc => ?_)) | (exfalso; omega))
  all_goals first | exact ww_ret rfl | (exfalso; omega) | exact ⟨.bool true, _, rfl, rfl⟩

theorem told {h : AH} {l : List AV} (H : WTs Try.prog h 8 Try.f4.params.toList l) : wp (W4 (withRun 3 (callT tab rtab 60)) l h) fun v _ => v = .bool true := by
  have e : Try.f4.params.toList = [3] := by kernel_rfl
  rw [e] at H
  obtain ⟨a, rfl, H0⟩ := WTs1 H
  simp only [WTV, WT, Try.underlying3] at H0
  obtain ⟨x, hx, h1, h2⟩ := H0
  cases hx
  exact law (by omega) ⟨h1, h2⟩

end Go.Proofs.Ytaepnpodenmmoaa.arenaClasses
