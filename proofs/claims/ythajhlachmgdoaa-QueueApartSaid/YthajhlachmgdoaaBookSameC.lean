/- Are two lists of cells the same? -/
import Derived.Test.YthajhlachmgdoaaVwM
import Derived.Test.YthajhlachmgdoaaT
import Derived.KernelRfl
namespace Go.Proofs.Ythajhlachmgdoaa
open Go Go.Ae
set_option maxRecDepth 100000

theorem ww_eqSC {l : List ES} {a b : List AV} {K : AV → Go.Ae.R} {Q : AV → AH → Prop} {neg : Bool} {p : Prop} [Decidable p] (e : partsEq l a b = some (decide p)) (h1 : p → wp (K (.bool (!neg))) Q) (h2 : ¬ p → wp (K (.bool neg)) Q) : wp (pEqS l neg (.agg a) (.agg b) K) Q := by
  unfold pEqS
  simp only [e, ob]
  by_cases h : p
  · have := h1 h
    simpa [h] using this
  · have := h2 h
    simpa [h] using this
theorem cell_eq (x y : Cl) : partsEq [.bas .int 0, .bas .int 1] (encC x) (encC y) = some (decide (x = y)) := by
  obtain ⟨a, b⟩ := x
  obtain ⟨a', b'⟩ := y
  show (bif ieq a a' then (bif ieq b b' then some true else some false) else some false) = _
  rw [ieq_dec, ieq_dec]
  by_cases h1 : a = a' <;> by_cases h2 : b = b' <;> simp [h1, h2]

theorem sameC_ok {D1 D2 : Nat → Prop} {n p q : Nat} (hn : 1 ≤ n) {a b : AV} {xs ys : List Cl} {h : AH} (S1 : Sl D1 h 2 p a (xs.flatMap encC)) (S2 : Sl D2 h 2 q b (ys.flatMap encC)) (hp : p < 100000000) :
    wp (callT tab rtab n (.fn 17 [] []) [a, b] h) fun v h' => v = .bool (decide (xs = ys)) ∧ h' = h := by
  have hxl : xs.length = p := by
    have := S1.len
    rw [flat_len (sz := 2) encC (fun _ => rfl)] at this
    omega
  have hyl : ys.length = q := by
    have := S2.len
    rw [flat_len (sz := 2) encC (fun _ => rfl)] at this
    omega
  (refine ww_fn (g := W17) rfl (by omega) fun k hk => ?_; show wp (S17 (callT tab rtab k) _ _ _) _; unfold S17; try simp only [Int.ofNat_eq_natCast])
  refine ww_len S1 (ww_len S2 (ww_neqC (fun hne => ?_) fun heq => ?_))
  · refine ww_condT (ww_ret ⟨?_, rfl⟩)
    rw [decide_eq_false]
    rintro rfl
    exact hne (by omega)
  · refine ww_condF (ww_iter (fun m s g => ∃ i : Nat, s = (.int .i64 (i : Int), b, a, ()) ∧ i ≤ p ∧ m = p - i ∧ g = h ∧ xs.take i = ys.take i) ?_ (m := p) (by show p < 1000000000; omega) ⟨0, rfl, by omega, by omega, rfl, rfl⟩)
    rintro m ih s g hih ⟨i, rfl, h1, rfl, rfl, h2⟩
    dsimp only
    refine ww_len S1 (ww_lssC (fun hlt => ww_condT ?_) fun hge => ww_condF (ww_leave (ww_ret ⟨?_, rfl⟩)))
    · have hi : i < p := by omega
      refine ww_idxN (l := encC xs[i]) S1 hi (by omega) ?_ ?_
      · rw [flat_drop (sz := 2) encC (fun _ => rfl), List.drop_eq_getElem_cons (by omega), List.flatMap_cons]; rfl
      refine ww_idxN (l := encC ys[i]) S2 (by omega) (by omega) ?_ ?_
      · rw [flat_drop (sz := 2) encC (fun _ => rfl), List.drop_eq_getElem_cons (by omega), List.flatMap_cons]; rfl
      refine ww_eqSC (cell_eq _ _) (fun he => ww_condF (ww_addI (by omega) ?_)) (fun hne => ww_condT (ww_leave (ww_ret ⟨?_, rfl⟩)))
      · refine hih (p - (i + 1)) _ _ (by omega) ⟨i + 1, rfl, by omega, rfl, rfl, ?_⟩
        rw [List.take_succ_eq_append_getElem (by omega), List.take_succ_eq_append_getElem (by omega), h2, he]
      · rw [decide_eq_false]
        rintro rfl
        exact hne rfl
    · rw [decide_eq_true]
      rw [List.take_of_length_le (by omega), List.take_of_length_le (by omega)] at h2
      exact h2
end Go.Proofs.Ythajhlachmgdoaa
