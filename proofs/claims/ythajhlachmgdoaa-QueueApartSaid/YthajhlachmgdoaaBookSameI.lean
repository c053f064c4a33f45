/- Are two lists of numbers the same? -/
import Derived.Test.YthajhlachmgdoaaAe7
import Derived.Test.YthajhlachmgdoaaT
import Derived.KernelRfl
namespace Go.Proofs.Ythajhlachmgdoaa
open Go Go.Ae
set_option maxRecDepth 100000

theorem sameI_ok {D1 D2 : Nat → Prop} {n p q : Nat} (hn : 1 ≤ n) {a b : AV} {xs ys : List Int} {h : AH} (S1 : Sl D1 h 1 p a (xs.map (.int .i64))) (S2 : Sl D2 h 1 q b (ys.map (.int .i64))) (hp : p < 1000000000) :
    wp (callT tab rtab n (.fn 19 [] []) [a, b] h) fun v h' => v = .bool (decide (xs = ys)) ∧ h' = h := by
  have hxl : xs.length = p := by simpa using S1.len
  have hyl : ys.length = q := by simpa using S2.len
  (refine ww_fn (g := W19) rfl (by omega) fun k hk => ?_; show wp (S19 (callT tab rtab k) _ _ _) _; unfold S19; try simp only [Int.ofNat_eq_natCast])
  refine ww_len S1 (ww_len S2 (ww_neqC (fun hne => ?_) fun heq => ?_))
  · refine ww_condT (ww_ret ⟨?_, rfl⟩)
    rw [decide_eq_false]
    rintro rfl
    exact hne (by omega)
  · refine ww_condF (ww_iter (fun m s g => ∃ i : Nat, s = (.int .i64 (i : Int), b, a, ()) ∧ i ≤ p ∧ m = p - i ∧ g = h ∧ xs.take i = ys.take i) ?_ (m := p) (by show p < 1000000000; omega) ⟨0, rfl, by omega, by omega, rfl, rfl⟩)
    rintro m ih s g hih ⟨i, rfl, h1, rfl, rfl, h2⟩
    dsimp only
    refine ww_len S1 (ww_lssC (fun hlt => ww_condT ?_) fun hge => ww_condF (ww_leave (ww_ret ⟨?_, rfl⟩)))
    · have hi : i < p := by omega
      refine ww_idx1 S1 (x := .int .i64 xs[i]) (by rw [List.getElem?_map, List.getElem?_eq_getElem (by omega)]; rfl) ?_
      refine ww_idx1 S2 (x := .int .i64 ys[i]) (by rw [List.getElem?_map, List.getElem?_eq_getElem (by omega)]; rfl) ?_
      refine ww_neqC (fun hne => ww_condT (ww_leave (ww_ret ⟨?_, rfl⟩))) fun he => ww_condF (ww_addI (by omega) ?_)
      · rw [decide_eq_false]
        rintro rfl
        exact hne rfl
      · refine hih (p - (i + 1)) _ _ (by omega) ⟨i + 1, rfl, by omega, rfl, rfl, ?_⟩
        rw [List.take_succ_eq_append_getElem (by omega), List.take_succ_eq_append_getElem (by omega), h2, he]
    · rw [decide_eq_true]
      rw [List.take_of_length_le (by omega), List.take_of_length_le (by omega)] at h2
      exact h2
end Go.Proofs.Ythajhlachmgdoaa
