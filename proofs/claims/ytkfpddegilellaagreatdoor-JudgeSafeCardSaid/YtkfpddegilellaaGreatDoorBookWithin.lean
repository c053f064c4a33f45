/- Numbers brought into bounds. -/
import Derived.Test.YtkfpddegilellaaGreatDoorAe7
import Derived.Test.YtkfpddegilellaaGreatDoorT
import Derived.KernelRfl
namespace Go.Proofs.YtkfpddegilellaaGreatDoor
open Go Go.Ae
set_option maxRecDepth 100000

def withinZ (x lo hi : Int) : Int := lo + (if x.tmod (hi - lo + 1) < 0 then x.tmod (hi - lo + 1) + (hi - lo + 1) else x.tmod (hi - lo + 1))
theorem tmod_bounds (x : Int) {m : Int} (hm : 0 < m) : -m < x.tmod m ∧ x.tmod m < m := by
  refine ⟨?_, Int.tmod_lt_of_pos x hm⟩
  have := Int.tmod_lt_of_pos (-x) hm
  rw [Int.neg_tmod] at this
  omega
theorem within_bounds (x : Int) {lo hi : Int} (h : lo ≤ hi) : lo ≤ withinZ x lo hi ∧ withinZ x lo hi ≤ hi := by
  have := tmod_bounds x (show 0 < hi - lo + 1 by omega)
  unfold withinZ
  split <;> omega
theorem within_ok {n : Nat} (hn : 1 ≤ n) {x lo hi : Int} {h : AH} (h1 : lo ≤ hi) (h2 : -1000000000 ≤ lo) (h3 : hi ≤ 1000000000) :
    wp (callT tab rtab n (.fn 12 [] []) [.int .i64 x, .int .i64 lo, .int .i64 hi] h) fun v h' => v = .int .i64 (withinZ x lo hi) ∧ h' = h := by
  (refine ww_fn (g := W12) rfl (by omega) fun k hk => ?_; show wp (S12 (callT tab rtab k) _ _ _ _) _; unfold S12; try simp only [Int.ofNat_eq_natCast])
  simp only [show ((1 : Nat) : Int) = 1 from rfl, show ((0 : Nat) : Int) = 0 from rfl]
  have hb := tmod_bounds x (show 0 < hi - lo + 1 by omega)
  unfold withinZ
  repeat' (first | (first | with_reducible refine ww_condT ?_ | with_reducible refine ww_condF ?_ | (with_reducible refine ww_wantTT ?_; try dsimp only) | (with_reducible refine ww_wantTF ?_; try dsimp only) | (with_reducible refine ww_wantFT ?_; try dsimp only) | (with_reducible refine ww_wantFF ?_; try dsimp only) | (with_reducible refine ww_wantU ?_; try dsimp only) | with_reducible refine ww_pickT ?_ | with_reducible refine ww_pickF ?_ | (with_reducible refine ww_joinS ?_; try dsimp only) | with_reducible refine ww_leave ?_ | with_reducible refine ww_notT ?_ | with_reducible refine ww_notF ?_ | with_reducible refine ww_addI (by omega) ?_ | with_reducible refine ww_subI (by omega) ?_ | with_reducible refine ww_addU (by omega) ?_ | with_reducible refine ww_subU (by omega) ?_ | with_reducible refine ww_min ?_ | with_reducible refine ww_max ?_) | with_reducible refine ww_rem (by omega) ?_ | (first | with_reducible refine ww_lssC (fun hc => ?_) (fun hc => ?_) | with_reducible refine ww_leqC (fun hc => ?_) (fun hc => ?_) | with_reducible refine ww_gtrC (fun hc => ?_) (fun hc => ?_) | with_reducible refine ww_geqC (fun hc => ?_) (fun hc => ?_) | with_reducible refine ww_eqlC (fun hc => ?_) (fun hc => ?_) | with_reducible refine ww_neqC (fun hc => ?_) (fun hc => ?_) | with_reducible refine ww_condB (fun hc => ?_) (fun hc => ?_)))
  all_goals refine ww_ret ⟨?_, rfl⟩
  all_goals congr 1
  all_goals (first | rw [if_pos (by omega)] | rw [if_neg (by omega)])
  all_goals omega
end Go.Proofs.YtkfpddegilellaaGreatDoor
