/- Trees: the way down, and up again: the walks. -/
import Derived.Test.YtpohfcljfemhlaaTreeW
namespace Go.Proofs.Ytpohfcljfemhlaa.arenaParts
open Go Go.Ae arenaPlays
set_option maxRecDepth 100000

variable {g h : AH} {L R : List SP} {α : Type}

theorem step_end {D : DM} (h : 2048 ≤ D.stp) : (stepD D).err ≠ 0 := by
  unfold stepD failD
  rw [if_pos (by omega)]
  split
  · show (2 : Int) ≠ 0; omega
  · assumption
/-- no steps are left: the act that would go on errs, and so does the draft -/
theorem run_end {D : DM} {a : Act α} (h : 2048 ≤ D.stp) : EqR (runA (.fail 2) D) (runA a (stepD D)) := by
  have e3 : stepD D = failD { D with stp := D.stp + 1 } 2 := by unfold stepD; rw [if_pos (by omega)]
  rw [e3]
  refine EqR.trans ?_ (run_fail (α := α) (e := 2) (D := { D with stp := D.stp + 1 }) (by omega))
  unfold runA
  refine ⟨rfl, ?_, ?_⟩
  · dsimp only
    split <;> rfl
  · dsimp only
    split <;> rfl

theorem seek_ok {n : Nat} (hn : 15 ≤ n) {t d : Nat} {D : DM} {root key : Int} {wv0 : AV} {sz : Nat} (H : HS g h (DrC d D :: TrC t d root wv0 :: R)) (G : GoodD D sz 5) (hs : D.stp = 0) :
    wp (callT tab rtab n (.fn 15 [] []) [.ptr t 0, .int .u64 key] h) fun r h' => ∃ (a : Int) (way : List StpT) (wv : AV) (D' : DM), r = .int .i64 a ∧ (∀ k : Int → List StpT → Act α, EqR (runA (seekA root key k) D) (runA (k a way) D')) ∧ GoodD D' sz 5 ∧ D'.stp ≤ 3000 ∧
      (0 ≤ a ∧ a < 2147483648) ∧ OkW way ∧ way.length ≤ 3000 ∧ HS g h' (DrC d D' :: TrC t d root wv :: WayC wv way :: R) := by
  (refine ww_fn (g := W15) rfl (by omega) fun k hk => ?_; show wp (S15 (callT tab rtab k) _ _ _) _; unfold S15; try simp only [Int.ofNat_eq_natCast])
  with_reducible (refine ww_nil ?_; refine ww_field0 ?_)
  refine ww_st1H H (b := t) (.there .here) ⟨rfl, rfl⟩ (by simp) fun h1 H1 => ?_
  have H1 : HS g h1 (TrC t d root .nils :: DrC d D :: R) := H1
  have H1 := (H1.nils (e := 76) (sz := 2)).sub (L' := DrC d D :: TrC t d root .nils :: WayC .nils [] :: R) (.cons (.there (.there .here)) (.cons (.there .here) (.cons .here .refl)))
  refine ww_call (top_ok (α := α) (by omega) H1 G) ?_
  rintro _ h2 ⟨a, D1, rfl, E1, A1, b1, H2⟩
  have hs1 := A1.stp
  refine ww_iter (fun m s h' => ∃ (a : Int) (way : List StpT) (wv : AV) (D2 : DM), s = (.int .i64 a, .int .u64 key, .ptr t 0, ()) ∧ (∀ k : Int → List StpT → Act α, EqR (runA (seekA root key k) D) (runA (seekL key k m a way) D2)) ∧ GoodD D2 sz 5 ∧ (0 ≤ a ∧ a < 2147483648) ∧ OkW way ∧ D2.stp + m = 2049 ∧ (way.length : Int) ≤ D2.stp ∧
    HS g h' (DrC d D2 :: TrC t d root wv :: WayC wv way :: R))
    ?_ (m := 2049) (by show 2049 < 1000000000; omega) ⟨a, [], .nils, D1, rfl, fun k => E1 _, A1.good, b1.1, OkW.nil, by omega, by simp; omega, H2⟩
  clear E1 A1 b1 H H1 H2 hs1
  rintro m ih s h3 hih ⟨a, way, wv, D2, rfl, E, G2, hb, O, hst, hal, H⟩
  dsimp only
  by_cases ha : a = 0
  · refine ww_neqF ha ?_
    with_reducible (refine ww_joinS ?_; (try dsimp only); refine ww_wantFT ?_; (try dsimp only); refine ww_pickF ?_; refine ww_condF ?_; refine ww_leave ?_)
    refine ww_ret ⟨0, way, wv, D2, rfl, fun k => (E k).trans ?_, G2, by omega, by omega, O, by omega, H⟩
    cases m <;> (unfold seekL; rw [if_pos ha]; exact EqR.refl _)
  refine ww_neqT ha ?_
  with_reducible (refine ww_joinS ?_; (try dsimp only); refine ww_wantTT ?_; (try dsimp only); refine ww_nil ?_; refine ww_field0 ?_; refine ww_ldH (by assumption) (.there .here) (by with_unfolding_all exact rfl) ?_)
  refine ww_call (dstep_ok (by omega) H G2) ?_
  rintro _ h4 ⟨rfl, H4⟩
  have G3 := G2.step (by omega)
  cases m with
  | zero =>
    have herr := step_end (D := D2) (by omega)
    rw [decide_eq_false herr]
    with_reducible (refine ww_pickT ?_; refine ww_condF ?_; refine ww_leave ?_)
    refine ww_ret ⟨0, way, wv, _, rfl, fun k => (E k).trans ?_, G3.1, by omega, by omega, O, by omega, H4⟩
    unfold seekL
    rw [if_neg ha]
    exact run_end (by omega)
  | succ m =>
    have E3 : ∀ k : Int → List StpT → Act α, EqR (runA (seekA root key k) D) (runA (.read a fun here => if here = key then k a way else childA a (if here < key then 1 else 0) fun c => seekL key k m c (way ++ [(a, if here < key then 1 else 0)])) (stepD D2)) := by
      intro k
      refine (E k).trans ?_
      rw [seekL, if_neg ha]
      exact run_step
    by_cases herr : (stepD D2).err = 0
    rotate_left
    · rw [decide_eq_false herr]
      with_reducible (refine ww_pickT ?_; refine ww_condF ?_; refine ww_leave ?_)
      exact ww_ret ⟨0, way, wv, _, rfl, fun k => (E3 k).trans (EqR.errs herr ⟨rfl, rfl⟩), G3.1, by omega, by omega, O, by omega, H4⟩
    rw [decide_eq_true herr]
    obtain ⟨G3, hs3⟩ := G3
    generalize stepD D2 = D3 at *
    with_reducible (refine ww_pickT ?_; refine ww_condT ?_; refine ww_nil ?_; refine ww_field0 ?_; refine ww_ldH (by assumption) (.there .here) (by with_unfolding_all exact rfl) ?_; refine ww_addI (by omega) ?_)
    rw [show a + ((0 : Nat) : Int) = a by omega]
    refine ww_call (dread_ok (by omega) H4 G3.g.ok) ?_
    rintro _ h5 ⟨rfl, H5⟩
    have G4 := G3.read (p := a)
    have E4 : ∀ k : Int → List StpT → Act α, _ := fun k => (E3 k).trans run_read
    have hs4 : (readD D3 a).2.stp = D3.stp := stp_read
    generalize readD D3 a = q4 at *
    obtain ⟨x, D4⟩ := q4
    obtain ⟨G4, b5, b6⟩ := G4
    dsimp only at *
    by_cases hk : x = key
    · refine ww_eqlT hk ?_
      with_reducible (refine ww_condT ?_; refine ww_leave ?_)
      refine ww_ret ⟨a, way, wv, D4, rfl, fun k => (E4 k).trans ?_, G4, by omega, by omega, O, by omega, H5⟩
      rw [if_pos hk]
      exact EqR.refl _
    refine ww_eqlF hk (ww_condF ?_)
    obtain ⟨side, hside⟩ : ∃ side : Int, side = if x < key then 1 else 0 := ⟨_, rfl⟩
    have hsb : 0 ≤ side ∧ side ≤ 1 := by rw [hside]; split <;> omega
    have E5 : ∀ k : Int → List StpT → Act α, EqR (runA (seekA root key k) D) (runA (childA a side fun c => seekL key k m c (way ++ [(a, side)])) D4) := by
      intro k
      refine (E4 k).trans ?_
      rw [if_neg hk, ← hside]
      exact EqR.refl _
    refine ww_joinD [] (fun s h' => s = (.int .i64 side, .int .i64 a, .int .u64 key, .ptr t 0, ()) ∧ h' = h5) ?_ ?_
    · intro j hj
      by_cases hlt : x < key
      · rw [if_pos hlt] at hside
        refine ww_gtrT hlt (ww_condT ?_)
        exact hj _ _ ⟨by rw [hside]; rfl, rfl⟩
      · rw [if_neg hlt] at hside
        refine ww_gtrF hlt (ww_condF ?_)
        exact hj _ _ ⟨by rw [hside]; rfl, rfl⟩
    clear hside E E3 E4
    rintro s h5 ⟨rfl, rfl⟩
    dsimp only
    with_reducible (refine ww_nil ?_; refine ww_field0 ?_; refine ww_ldH (by assumption) (.there .here) (by with_unfolding_all exact rfl) ?_; refine ww_build (by with_unfolding_all exact rfl) ?_)
    refine ww_buildSH (n := 1) (l := [.int .i64 a, .int .i64 side]) (sz := 2) H5 rfl rfl rfl rfl fun v6 h6 H6 => ?_
    refine ww_appH (H6.sel (.there (.there (.there .here)))) (H6.sl .here) (by omega) (by omega) rfl fun v7 h7 H7 => ?_
    have o7 := H7.one .here
    with_reducible (refine ww_nil ?_; refine ww_field0 ?_)
    refine ww_st1H H7 (b := t) (.there (.there (.there .here))) o7 (by simp) fun h8 H8 => ?_
    have H8 : HS g h8 (DrC d D4 :: TrC t d root v7 :: WayC v7 (way ++ [(a, side)]) :: R) := by
      have H9 : HS g h8 (TrC t d root v7 :: SliC 76 2 (way.length + 1) v7 (way.flatMap encS ++ [.int .i64 a, .int .i64 side]) :: SliC 76 2 1 v6 [.int .i64 a, .int .i64 side] :: DrC d D4 :: R) := H8
      unfold WayC
      rw [List.flatMap_append, List.length_append]
      exact H9.sub (.cons (.there (.there (.there .here))) (.cons .here (.cons .here (.drop .refl))))
    refine ww_call (child_ok (α := α) (by omega) H8 G4 (by omega)) ?_
    rintro _ h9 ⟨c, D5, rfl, E6, A6, b6, H9⟩
    have hs6 := A6.stp
    exact hih m _ _ (by omega) ⟨c, way ++ [(a, side)], v7, D5, rfl, fun k => (E5 k).trans (E6 _), A6.good, b6.1, O.add (by dsimp only; omega) hsb, by omega, by simp; omega, H9⟩
end Go.Proofs.Ytpohfcljfemhlaa.arenaParts
