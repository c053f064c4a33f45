/- 'ArenaPlays' comes to true for every argument: its own walk. -/
import Derived.Test.YtaepnpodenmmoaaArenaDo
namespace Go.Proofs.Ytaepnpodenmmoaa.arenaPlays
open Go Go.Ae
set_option maxRecDepth 100000

variable {g h : AH} {L R : List SP}

def encK (a : Int × Int × Bool) : List AV := [.int .i64 a.1, .int .i64 a.2.1, .bool a.2.2]
theorem ww_ptrN {b o : Nat} {K : AV → Go.Ae.R} {Q : AV → AH → Prop} (w : wp (K (.bool false)) Q) : wp (pEq .ptr false (.ptr b o) .nilp K) Q := w
theorem whole_good {zs : List Int} {m : Int} (hz : ∀ z ∈ zs, 0 ≤ z ∧ z < 18446744073709551616) : GoodV (wholeV zs m) := by
  refine ⟨wholeV_ok zs m, ?_, ?_⟩
  · intro c hc
    obtain ⟨i, _, rfl⟩ := List.mem_map.1 hc
    show 0 ≤ wordAt zs (i + 1) ∧ wordAt zs (i + 1) < 18446744073709551616
    unfold wordAt
    cases hzi : zs[i + 1]? with
    | none => simp
    | some z => exact hz z (List.mem_of_getElem? hzi)
  · intro x hx
    simp [wholeV] at hx
    subst hx
    intro c hc; cases hc
theorem fresh_words (w : Int) : ∀ z ∈ freshA w, 0 ≤ z ∧ z < 18446744073709551616 := by
  intro z hz
  unfold freshA at hz
  rcases List.mem_or_eq_of_mem_set hz with h | rfl
  · rw [List.mem_replicate] at h; omega
  · omega

theorem law {k : Nat} (hk : 20 ≤ k) {w m : Int} {a2 : AV} {ks : List (Int × Int × Bool)} (S : Sl (fun b => b < h.nx) h 3 ks.length a2 (ks.flatMap encK)) :
    wp (W6 (withRun 3 (callT tab rtab k)) [.int .i64 w, .int .i64 m, a2] h) fun v _ => v = .bool true := by
  show wp (S6 (withRun _ (callT tab rtab _)) _ _ _ _) _
  unfold S6
  try simp only [Int.ofNat_eq_natCast]
  refine ww_run ?_
  with_reducible (refine ww_notT ?_; refine ww_condF ?_)
  have hb := szZ_b w
  refine ww_callZ (by decide) (afresh_ok (by omega) (HS.nil h)) ?_
  rintro v3 h1 ⟨e1, H1⟩
  refine ww_callZ (by decide) (rfresh_ok (by omega) H1) ?_
  rintro v5 h2 ⟨e2, H2⟩
  refine ww_callZ (by decide) (sameU_ok (by omega) (H2.sl (.there .here)) (H2.sl .here) (by omega)) ?_
  rintro _ h2 ⟨rfl, rfl⟩
  rw [decide_eq_true rfl]
  with_reducible (refine ww_notT ?_; refine ww_condF ?_)
  rw [← freshA_len w] at H2
  refine ww_callZ (by decide) (vwhole_ok (zs := freshA w) (m := m) (by omega) H2 (H2.rd (.there .here))) ?_
  rintro _ h3 ⟨v, rfl, H3⟩
  refine ww_callZ (by decide) (rvwhole_ok (zs := freshA w) (m := m) (by omega) H3 (H3.rd (.there (.there .here)))) ?_
  rintro _ h4 ⟨o, rfl, H4⟩
  refine ww_ptrN ?_
  with_reducible (refine ww_condF ?_)
  have G := whole_good (m := m) (fresh_words w)
  refine ww_iter (fun c s h' => ∃ (i : Nat) (M : VM) (tv : AV) (td : List Int), s = (.int .i64 (i : Int), tv, .ptr o 0, .ptr v 0, a2, ()) ∧ i ≤ 40 ∧ c = 40 - i ∧ GoodV M ∧ frS M.lv ≤ i ∧ td.length ≤ i ∧
    HS h h' (ViewC v M :: RvC o M :: SliC 3 1 td.length tv (td.map (.int .i64)) :: []))
    ?_ (m := 40) (by show 40 < 1000000000; omega) ⟨0, _, .nils, [], rfl, by omega, by omega, G, by simp [wholeV, frS], by simp, (H4.nils).sub (.cons (.there (.there .here)) (.cons (.there .here) (.cons .here (.drop (.drop .refl)))))⟩
  rintro c ih s h' hih ⟨i, M, tv, td, rfl, h1, rfl, G, hf, ht, H⟩
  dsimp only
  have Sa : Sl (fun _ => True) h' 3 ks.length a2 (ks.flatMap encK) := (Rd.arg (L := []) S).sl (H.drop.drop.drop)
  refine ww_len Sa ?_
  by_cases hi : i < ks.length ∧ i < 40
  · have hci : ks[i]? = some ks[i] := List.getElem?_eq_getElem hi.1
    with_reducible (refine ww_lssT (by omega) ?_; refine ww_joinS ?_; (try dsimp only); refine ww_wantTT ?_; (try dsimp only); refine ww_lssT (by omega) ?_; refine ww_pickT ?_; refine ww_condT ?_)
    refine ww_idxN (l := encK ks[i]) Sa hi.1 (by omega) (enc_row (sz := 3) (fun _ => rfl) hci) ?_
    refine ww_callZ (by decide) (do_ok (by omega) H G (by omega) (by omega)) ?_
    rintro _ h5 ⟨M', tv', td', rfl, G', hf', ht', _, H5⟩
    with_reducible (refine ww_extract (by with_unfolding_all exact rfl) ?_; refine ww_extract (by with_unfolding_all exact rfl) ?_; refine ww_notT ?_; refine ww_joinS ?_; (try dsimp only); refine ww_wantFF ?_; (try dsimp only))
    refine ww_callZ (by decide) (same_ok (by omega) H5 G'.ok (by omega)) ?_
    rintro _ h6 ⟨rfl, H6⟩
    with_reducible (refine ww_notT ?_; refine ww_pickF ?_; refine ww_condF ?_; refine ww_addI (by omega) ?_)
    exact hih (40 - (i + 1)) _ _ (by omega) ⟨i + 1, M', tv', td', rfl, by omega, rfl, G', by omega, by omega, H6⟩
  · by_cases hl : i < ks.length
    · with_reducible (refine ww_lssT (by omega) ?_; refine ww_joinS ?_; (try dsimp only); refine ww_wantTT ?_; (try dsimp only); refine ww_lssF (by omega) ?_; refine ww_pickT ?_; refine ww_condF ?_; refine ww_leave ?_)
      exact ww_ret rfl
    · with_reducible (refine ww_lssF (by omega) ?_; refine ww_joinS ?_; (try dsimp only); refine ww_wantFT ?_; (try dsimp only); refine ww_pickF ?_; refine ww_condF ?_; refine ww_leave ?_)
      exact ww_ret rfl

theorem told {h : AH} {l : List AV} (H : WTs Try.prog h 8 Try.f6.params.toList l) : wp (W6 (withRun 3 (callT tab rtab 60)) l h) fun v _ => v = .bool true := by
  have e : Try.f6.params.toList = [3, 3, 41] := by kernel_rfl
  rw [e] at H
  obtain ⟨a0, a1, a2, rfl, H0, H1, H2⟩ := WTs3 H
  simp only [WTV, Try.underlying3, Try.underlying4, Try.underlying41, Try.underlying49] at H0 H1 H2
  obtain ⟨q, xs, S, _, H2⟩ := WT_slice (sz := 3) Try.underlying41 (by kernel_rfl) (by omega) H2
  obtain ⟨ks, g1, _, rfl⟩ := rows_enc (α := Int × Int × Bool) (Pr := fun _ => True) encK S.len (fun i hi => by
    have := H2 i hi
    generalize (xs.drop (i * 3)).take 3 = row at this
    unfold WT at this
    simp only [Try.underlying49] at this
    obtain ⟨g1, g2⟩ := this
    rw [show Try.prog.cellsOf 49 = 3 by kernel_rfl] at g1
    match row, g1 with
    | [x, y, z], _ =>
      have f1 := g2 _ (List.mem_cons_self ..)
      have f2 := g2 _ (List.mem_cons_of_mem _ (List.mem_cons_self ..))
      have f3 := g2 _ (List.mem_cons_of_mem _ (List.mem_cons_of_mem _ (List.mem_cons_self ..)))
      rw [show Try.prog.cellsOf 3 = 1 by kernel_rfl] at f1 f2
      rw [show Try.prog.cellsOf 4 = 1 by kernel_rfl] at f3
      unfold WT at f1 f2 f3
      simp only [Try.underlying3, List.drop_zero, List.take_succ_cons, List.take_zero, List.drop_succ_cons] at f1 f2
      simp only [Try.underlying4, List.drop_succ_cons, List.drop_zero, List.take_succ_cons, List.take_zero] at f3
      obtain ⟨a, ha, _⟩ := f1
      obtain ⟨b, hb, _⟩ := f2
      obtain ⟨c, hc⟩ := f3
      cases ha; cases hb; cases hc
      exact ⟨(a, b, c), trivial, rfl⟩)
  unfold WT at H0 H1
  simp only [Try.underlying3, Try.underlying4, Try.underlying41, Try.underlying49] at H0 H1
  obtain ⟨w, hw, _⟩ := H0
  obtain ⟨m, hm, _⟩ := H1
  cases hw; cases hm
  exact law (by omega) (g1 ▸ S)
end Go.Proofs.Ytaepnpodenmmoaa.arenaPlays
