/- 'ArenaNeeds' comes to true for every argument: its own walk. -/
import Derived.Test.YtaepnpodenmmoaaArenaPlays
namespace Go.Proofs.Ytaepnpodenmmoaa.arenaNeeds
open Go Go.Ae arenaPlays
set_option maxRecDepth 100000

variable {g h : AH} {L R : List SP}

theorem ww_pickAnd {u x : Bool} {r : AV} {K : AV → Go.Ae.R} {Q : AV → AH → Prop} (hr : u = true → r = .bool x) (w : wp (K (.bool (u && x))) Q) : wp (pPick (.bool u) r (.bool false) K) Q := by
  cases u
  · exact w
  · rw [hr rfl]; exact w
def OkW (zs : List Int) : Prop := zs.length = 64 ∧ ∀ z ∈ zs, 0 ≤ z ∧ z < 18446744073709551616
theorem OkW.set {zs : List Int} {i : Nat} {x : Int} (h : OkW zs) (hx : 0 ≤ x ∧ x < 18446744073709551616) : OkW (zs.set i x) := by
  refine ⟨by rw [List.length_set]; exact h.1, fun z hz => ?_⟩
  rcases List.mem_or_eq_of_mem_set hz with h1 | rfl
  · exact h.2 z h1
  · exact hx
theorem new_good {w m : Int} : GoodV (newV w m) := ⟨newV_ok w m, by intro c hc; simp [newV] at hc, by intro x hx; simp [newV] at hx; subst hx; intro c hc; simp at hc⟩
theorem know_good {M : VM} {p x : Int} (G : GoodV M) (hx : 0 ≤ x ∧ x < 18446744073709551616) : GoodV (knowV M p x).2 := by
  refine ⟨knowV_ok G.ok, ?_⟩
  unfold knowV
  split
  · split
    · exact G.wd
    · refine ⟨fun c hc => ?_, G.wd.l⟩
      rcases List.mem_append.1 hc with hc | hc
      · exact G.wd.k c hc
      · rw [List.mem_singleton] at hc; subst hc; exact hx
  · exact G.wd
theorem know_lv {M : VM} {p x : Int} : (knowV M p x).2.lv = M.lv ∧ (knowV M p x).2.sz = M.sz := by
  unfold knowV
  repeat' split
  all_goals exact ⟨rfl, rfl⟩

theorem law {k : Nat} (hk : 20 ≤ k) {a0 a1 : AV} {a b : Int} {t : Bool} {ws hs : List Int} (S0 : Sl (fun b => b < h.nx) h 1 ws.length a0 (ws.map (.int .u64))) (hw : ∀ z ∈ ws, 0 ≤ z)
    (S1 : Sl (fun b => b < h.nx) h 1 hs.length a1 (hs.map (.int .u8))) (hh : ∀ z ∈ hs, 0 ≤ z) :
    wp (W7 (withRun 3 (callT tab rtab k)) [a0, a1, .agg [.int .i64 a, .int .i64 b, .bool t]] h) fun v _ => v = .bool true := by
  show wp (S7 (withRun _ (callT tab rtab _)) _ _ _ _) _
  unfold S7
  try simp only [Int.ofNat_eq_natCast]
  refine ww_boxA (HS.nil h) rfl fun bq h1 H => ?_
  refine ww_run ?_
  with_reducible (refine ww_notT ?_; refine ww_condF ?_)
  refine ww_callZ (by decide) (rfresh_ok (by omega) H) ?_
  rintro wv h2 ⟨e, H2⟩
  rw [show szZ ((64 : Nat) : Int) = 64 from rfl] at H2
  have w0 : OkW (freshA ((64 : Nat) : Int)) := ⟨by rw [freshA_len]; rfl, fresh_words _⟩
  refine ww_iter (fun c s h' => ∃ (i : Nat) (zs : List Int), s = (.int .i64 (i : Int), wv, .ptr bq 0, a1, a0, ()) ∧ i ≤ 64 ∧ c = 64 - i ∧ OkW zs ∧
    HS h h' (SliC e 1 64 wv (zs.map (.int .u64)) :: ObjC bq [.int .i64 a, .int .i64 b, .bool t] :: [])) ?_ (m := 64) (by show 64 < 1000000000; omega) ⟨0, _, rfl, by omega, by omega, w0, H2⟩
  clear H2 H
  rintro c ih s h3 hih ⟨i, zs, rfl, h1, rfl, ok, H⟩
  dsimp only
  have Sa : Sl (fun _ => True) h3 1 ws.length a0 (ws.map (.int .u64)) := (Rd.arg (L := []) S0).sl (H.drop.drop)
  refine ww_len Sa (ww_lss ?_)
  refine ww_join (fun s g' => ∃ (r : AV) (u x : Bool), s = (r, .bool u, .int .i64 (i : Int), wv, .ptr bq 0, a1, a0, ()) ∧ g' = h3 ∧ (u = true → r = .bool x) ∧ ((u && x) = decide (i < ws.length ∧ i < 64))) ?_ ?_
  · intro j hj
    refine ww_want (fun hl => ww_lss (hj _ _ ⟨_, _, decide (i < 64), rfl, rfl, fun _ => (by congr 1; exact decide_eq_decide.2 (by omega)), ?_⟩)) (fun hl => hj _ _ ⟨_, _, false, rfl, rfl, fun h => absurd (of_decide_eq_true h) hl, ?_⟩)
    · have hl' : i < ws.length := by omega
      simp [hl']
    · have hl' : ¬ i < ws.length := by omega
      simp [hl']
  rintro s h3 ⟨r, u, x, rfl, rfl, hr, hux⟩
  refine ww_pickAnd hr ?_
  rw [hux]
  dsimp only
  refine ww_cond (fun hi => ?_) fun hi => ?_
  · have hci : (ws.map (AV.int .u64))[i]? = some (.int .u64 ws[i]) := by rw [List.getElem?_map, List.getElem?_eq_getElem hi.1]; rfl
    have hwi := hw ws[i] (List.getElem_mem hi.1)
    refine ww_joinS ?_
    refine ww_idx1 Sa hci (ww_rem (by omega) (ww_gtrC (fun hg => ?_) fun hg => ?_))
    · with_reducible (refine ww_condT ?_)
      refine ww_idx1 Sa hci (ww_rem (by omega) ?_)
      refine ww_slI H (by omega) ⟨rfl, rfl⟩ fun h4 H4 => ?_
      with_reducible (refine ww_addI (by omega) ?_)
      have hb1 := Int.tmod_nonneg ((70 : Nat) : Int) hwi
      have hb2 := Int.tmod_lt_of_pos ws[i] (show 0 < ((70 : Nat) : Int) by omega)
      rw [← List.map_set] at H4
      exact hih (64 - (i + 1)) _ _ (by omega) ⟨i + 1, _, rfl, by omega, rfl, ok.set ⟨hb1, by omega⟩, H4⟩
    · with_reducible (refine ww_condF ?_; refine ww_addI (by omega) ?_)
      exact hih (64 - (i + 1)) _ _ (by omega) ⟨i + 1, zs, rfl, by omega, rfl, ok, H⟩
  clear hih hux hr hi h1
  refine ww_iter (fun c s h' => ∃ (i : Nat) (zs : List Int), s = (.int .i64 (i : Int), wv, .ptr bq 0, a1, ()) ∧ i ≤ 14 ∧ c = 14 - i ∧ OkW zs ∧
    HS h h' (SliC e 1 64 wv (zs.map (.int .u64)) :: ObjC bq [.int .i64 a, .int .i64 b, .bool t] :: [])) ?_ (m := 14) (by show 14 < 1000000000; omega) ⟨0, _, rfl, by omega, by omega, ok, H⟩
  clear H ok Sa
  rintro c ih s h3 hih ⟨i, zs, rfl, h1, rfl, ok, H⟩
  dsimp only
  have Sa : Sl (fun _ => True) h3 1 hs.length a1 (hs.map (.int .u8)) := (Rd.arg (L := []) S1).sl (H.drop.drop)
  refine ww_len Sa (ww_lss ?_)
  refine ww_join (fun s g' => ∃ (r : AV) (u x : Bool), s = (r, .bool u, .int .i64 (i : Int), wv, .ptr bq 0, a1, ()) ∧ g' = h3 ∧ (u = true → r = .bool x) ∧ ((u && x) = decide (i < hs.length ∧ i < 14))) ?_ ?_
  · intro j hj
    refine ww_want (fun hl => ww_lss (hj _ _ ⟨_, _, decide (i < 14), rfl, rfl, fun _ => (by congr 1; exact decide_eq_decide.2 (by omega)), ?_⟩)) (fun hl => hj _ _ ⟨_, _, false, rfl, rfl, fun h => absurd (of_decide_eq_true h) hl, ?_⟩)
    · have hl' : i < hs.length := by omega
      simp [hl']
    · have hl' : ¬ i < hs.length := by omega
      simp [hl']
  rintro s h3 ⟨r, u, x, rfl, rfl, hr, hux⟩
  refine ww_pickAnd hr ?_
  rw [hux]
  dsimp only
  refine ww_cond (fun hi => ?_) fun hi => ?_
  · have hci : (hs.map (AV.int .u8))[i]? = some (.int .u8 hs[i]) := by rw [List.getElem?_map, List.getElem?_eq_getElem hi.1]; rfl
    have hwi := hh hs[i] (List.getElem_mem hi.1)
    have hb1 := Int.tmod_nonneg ((66 : Nat) : Int) hwi
    have hb2 := Int.tmod_lt_of_pos hs[i] (show 0 < ((66 : Nat) : Int) by omega)
    refine ww_idx1 Sa hci (ww_rem (by omega) (ww_convIU (by omega) ?_))
    refine ww_slI H (by omega) ⟨rfl, rfl⟩ fun h4 H4 => ?_
    with_reducible (refine ww_addI (by omega) ?_)
    rw [← List.map_set] at H4
    exact hih (14 - (i + 1)) _ _ (by omega) ⟨i + 1, _, rfl, by omega, rfl, ok.set ⟨hb1, by omega⟩, H4⟩
  clear hih hux hr hi h1
  refine ww_callZ (by decide) (vnew_ok (by omega) H) ?_
  rintro _ h4 ⟨v, rfl, H4⟩
  refine ww_callZ (by decide) (rvnew_ok (by omega) H4) ?_
  rintro _ h5 ⟨o, rfl, H5⟩
  refine ww_ptrN ?_
  with_reducible (refine ww_condF ?_)
  refine ww_iter (fun c s h' => ∃ (i : Nat) (M : VM), s = (.int .i64 (i : Int), .ptr o 0, .ptr v 0, wv, .ptr bq 0, ()) ∧ i ≤ 9 ∧ c = 9 - i ∧ GoodV M ∧ frS M.lv ≤ i ∧ M.sz = 64 ∧ mergeL M.lv = [] ∧
    HS h h' (ViewC v M :: RvC o M :: SliC e 1 64 wv (zs.map (.int .u64)) :: ObjC bq [.int .i64 a, .int .i64 b, .bool t] :: [])) ?_ (m := 9) (by show 9 < 1000000000; omega)
    ⟨0, _, rfl, by omega, by omega, new_good (w := ((64 : Nat) : Int)) (m := ((20 : Nat) : Int)), by simp [newV, frS], rfl, rfl, H5.sub (.cons (.there .here) (.cons .here .refl))⟩
  clear H H4 H5 Sa
  rintro c ih s h6 hih ⟨i, M, rfl, h1, rfl, G, hf, hsz, hmg, H⟩
  dsimp only
  by_cases hi : i < 9
  · with_reducible (refine ww_lssT (by omega) ?_; refine ww_condT ?_)
    refine ww_callZ (by decide) (vneed_ok (by omega) H) ?_
    rintro _ h6 ⟨rfl, rfl⟩
    refine ww_ldNH H (b := bq) (l := [.int .i64 a, .int .i64 b, .bool t]) (.there (.there (.there .here))) rfl (by omega) rfl ?_
    have H7 := (H.nils (e := 3) (sz := 1)).sub (L' := ViewC v M :: RvC o M :: SliC 3 1 0 .nils [] :: SliC e 1 64 wv (zs.map (.int .u64)) :: ObjC bq [.int .i64 a, .int .i64 b, .bool t] :: []) (.cons (.there .here) (.cons (.there .here) (.cons .here .refl)))
    refine ww_callZ (by decide) (do_ok (td := []) (by omega) H7 G (by omega) (by simp)) ?_
    rintro _ h8 ⟨M', tv', td', rfl, G', hf', _, ⟨s1, s2, s3, s4⟩, H8⟩
    with_reducible (refine ww_extract (by with_unfolding_all exact rfl) ?_; refine ww_extract (by with_unfolding_all exact rfl) ?_; refine ww_notT ?_; refine ww_joinS ?_; (try dsimp only); refine ww_wantFF ?_; (try dsimp only))
    refine ww_callZ (by decide) (same_ok (by omega) H8 G'.ok (by omega)) ?_
    rintro _ h9 ⟨rfl, H9⟩
    with_reducible (refine ww_notT ?_; refine ww_pickF ?_; refine ww_condF ?_)
    refine ww_callZ (by decide) (vneed_ok (by omega) H9) ?_
    rintro _ h9 ⟨rfl, rfl⟩
    by_cases hx : M'.need = M.need
    · with_reducible (refine ww_eqlT (by omega) ?_; refine ww_joinS ?_; (try dsimp only); refine ww_wantTF ?_; (try dsimp only); refine ww_pickT ?_; refine ww_joinS ?_; (try dsimp only); refine ww_wantTF ?_; (try dsimp only); refine ww_pickT ?_; refine ww_condT ?_; refine ww_leave ?_)
      exact ww_ret rfl
    by_cases hn1 : M'.need < 1
    · with_reducible (refine ww_eqlT (by omega) ?_; refine ww_joinS ?_; (try dsimp only); refine ww_wantTF ?_; (try dsimp only); refine ww_pickT ?_; refine ww_joinS ?_; (try dsimp only); refine ww_wantTF ?_; (try dsimp only); refine ww_pickT ?_; refine ww_condT ?_; refine ww_leave ?_)
      exact ww_ret rfl
    by_cases hn2 : 63 < M'.need
    · with_reducible (refine ww_eqlT (by omega) ?_; refine ww_joinS ?_; (try dsimp only); refine ww_wantTF ?_; (try dsimp only); refine ww_pickT ?_; refine ww_joinS ?_; (try dsimp only); refine ww_wantTF ?_; (try dsimp only); refine ww_pickT ?_; refine ww_condT ?_; refine ww_leave ?_)
      exact ww_ret rfl
    rcases s4 with s4 | ⟨s4, s5, s6, s7⟩
    · exact absurd s4 hx
    with_reducible (refine ww_eqlF (by omega) ?_; refine ww_joinS ?_; (try dsimp only); refine ww_wantFF ?_; (try dsimp only); refine ww_lssF (by omega) ?_; refine ww_pickF ?_; refine ww_joinS ?_; (try dsimp only); refine ww_wantFF ?_; (try dsimp only); refine ww_gtrF (by omega) ?_; refine ww_pickF ?_; refine ww_condF ?_)
    have hmg' : mergeL M'.lv = [] := by rw [s4]; exact hmg
    refine ww_callZ (by decide) (vcells_ok (by omega) H9 G'.ok) fun vc h10 H10 => ?_
    rw [hmg'] at H10
    refine ww_lenH H10 .here ?_
    obtain ⟨j, hj⟩ : ∃ j : Nat, M'.need = (j : Int) := ⟨M'.need.toNat, by omega⟩
    have hzl := ok.1
    have hzj : (zs.map (AV.int .u64))[j]? = some (.int .u64 (zs[j]'(by omega))) := by rw [List.getElem?_map, List.getElem?_eq_getElem (by omega)]; rfl
    have hz := ok.2 (zs[j]'(by omega)) (List.getElem_mem (by omega))
    have hk : ∀ x, (knowV M' (j : Int) x).1 = 0 := by
      intro x
      unfold knowV
      rw [if_pos (by omega), s2, ← hj, s7]
    show wp (pInt .gtr (.int .i64 ((0 : Nat) : Int)) _ _) _
    with_reducible (refine ww_gtrF (by omega) ?_; refine ww_joinS ?_; (try dsimp only); refine ww_wantFF ?_; (try dsimp only))
    rw [hj]
    refine ww_idx1 (H10.sl (.there (.there (.there (.there .here))))) hzj ?_
    refine ww_callZ (by decide) (vknow_ok (by omega) (H10.sel (.there .here)) G'.ok) ?_
    rintro _ h11 ⟨rfl, H11⟩
    rw [hk]
    with_reducible (refine ww_neqF (by omega) ?_; refine ww_pickF ?_; refine ww_joinS ?_; (try dsimp only); refine ww_wantFF ?_; (try dsimp only))
    refine ww_idx1 (H11.sl (.there (.there (.there (.there .here))))) hzj ?_
    refine ww_callZ (by decide) (rvknow_ok (by omega) (H11.sel (.there (.there .here))) G'.ok) ?_
    rintro _ h12 ⟨rfl, H12⟩
    rw [hk]
    with_reducible (refine ww_neqF (by omega) ?_; refine ww_pickF ?_; refine ww_condF ?_; refine ww_addI (by omega) ?_)
    have hlv := know_lv (M := M') (p := (j : Int)) (x := zs[j]'(by omega))
    exact hih (9 - (i + 1)) _ _ (by omega) ⟨i + 1, (knowV M' (j : Int) (zs[j]'(by omega))).2, rfl, by omega, rfl, know_good G' hz, by rw [hlv.1]; omega, by rw [hlv.2, s1]; exact hsz, by rw [hlv.1]; exact hmg',
      H12.sub (.cons (.there .here) (.cons .here (.drop (.drop .refl))))⟩
  · with_reducible (refine ww_lssF (by omega) ?_; refine ww_condF ?_; refine ww_leave ?_)
    exact ww_ret rfl

theorem told {h : AH} {l : List AV} (H : WTs Try.prog h 8 Try.f7.params.toList l) : wp (W7 (withRun 3 (callT tab rtab 60)) l h) fun v _ => v = .bool true := by
  have e : Try.f7.params.toList = [24, 52, 49] := by kernel_rfl
  rw [e] at H
  obtain ⟨a0, a1, a2, rfl, H0, H1, H2⟩ := WTs3 H
  simp only [WTV, Try.underlying3, Try.underlying4, Try.underlying5, Try.underlying24, Try.underlying43, Try.underlying49, Try.underlying52] at H0 H1 H2
  obtain ⟨ws, S0, b0⟩ := WT_ints Try.underlying24 Try.underlying43 (by kernel_rfl) H0
  obtain ⟨hs, S1, b1⟩ := WT_ints Try.underlying52 Try.underlying5 (by kernel_rfl) H1
  obtain ⟨l, rfl, H2⟩ := H2
  unfold WT at H2
  simp only [Try.underlying49] at H2
  obtain ⟨g1, g2⟩ := H2
  rw [show Try.prog.cellsOf 49 = 3 by kernel_rfl] at g1
  match l, g1 with
  | [x, y, z], _ =>
    have f1 := g2 _ (List.mem_cons_self ..)
    have f2 := g2 _ (List.mem_cons_of_mem _ (List.mem_cons_self ..))
    have f3 := g2 _ (List.mem_cons_of_mem _ (List.mem_cons_of_mem _ (List.mem_cons_self ..)))
    rw [show Try.prog.cellsOf 3 = 1 by kernel_rfl] at f1 f2
    rw [show Try.prog.cellsOf 4 = 1 by kernel_rfl] at f3
    unfold WT at f1 f2 f3
    simp only [Try.underlying3, List.drop_zero, List.take_succ_cons, List.take_zero, List.drop_succ_cons] at f1 f2
    simp only [Try.underlying4, List.drop_succ_cons, List.drop_zero, List.take_succ_cons, List.take_zero] at f3
    obtain ⟨a, ha, _⟩ := f1
    obtain ⟨b, hb, _⟩ := f2
    obtain ⟨c, hc⟩ := f3
    cases ha; cases hb; cases hc
    exact law (by omega) S0 (fun z hz => (b0 z hz).1) S1 (fun z hz => (b1 z hz).1)
end Go.Proofs.Ytaepnpodenmmoaa.arenaNeeds
