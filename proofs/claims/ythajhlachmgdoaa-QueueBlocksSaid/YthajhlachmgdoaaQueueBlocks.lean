/- 'QueueBlocks' comes to true for every argument: its own walk. -/
import Derived.Test.YthajhlachmgdoaaQueueLive
namespace Go.Proofs.Ythajhlachmgdoaa.queueBlocks
open Go Go.Ae arenaPlays arenaParts
set_option maxRecDepth 100000

variable {g h : AH} {L R : List SP}

theorem law {k : Nat} (hk : 25 ≤ k) {a0 : AV} {rd : Int} {l : List CallT} (S : Sl (fun b => b < h.nx) h 4 l.length a0 (l.flatMap encL)) (hp : ∀ c ∈ l, 0 ≤ c.2.2.1) (hr : 0 ≤ rd ∧ rd ≤ 255) :
    wp (W6 (withRun 3 (callT tab rtab k)) [a0, .int .u8 rd] h) fun v _ => v = .bool true := by
  show wp (S6 (withRun _ (callT tab rtab _)) _ _ _) _
  unfold S6
  try simp only [Int.ofNat_eq_natCast]
  refine ww_run ?_
  with_reducible (refine ww_notT ?_; refine ww_condF ?_)
  refine ww_callZ (by decide) (afresh_ok (by omega) (HS.nil h)) ?_
  rintro wv h1 ⟨e1, H⟩
  refine ww_build (l := [.nils, .nils, .nils, .nils, .nils, .nils, .nils, .nils]) rfl ?_
  refine ww_boxA H rfl fun o h2 H2 => ?_
  have H2 := (H2.nils (e := 88) (sz := 2)).sub (L' := SliC e1 1 (freshA 256).length wv ((freshA 256).map (.int .u64)) :: ObjC o [.nils, .nils, .nils, .nils, .nils, .nils, .nils, .nils] :: SliC 88 2 0 .nils [] :: []) (.cons (.there (.there .here)) (.cons (.there .here) (.cons .here .refl)))
  refine ww_iter (fun m s h' => ∃ (r : Nat) (zs : List Int) (wv v : AV) (e : TypeId) (hd : Int) (ns : List (Int × Int)) (xs : List AV), s = (.int .i64 (r : Int), .ptr o 0, wv, .int .u8 rd, a0, ()) ∧ r ≤ 3 ∧ m = 3 - r ∧ TwoQ zs 256 [] 10 hd ns 11 0 [] ∧ xs.length = 8 ∧ xs[4]? = some v ∧
    HS h h' (SliC e 1 zs.length wv (zs.map (.int .u64)) :: ObjC o xs :: RowC v (ns.map (·.2)) :: []))
    ?_ (m := 3) (by show 3 < 1000000000; omega) ⟨0, freshA 256, wv, .nils, e1, 0, [], [.nils, .nils, .nils, .nils, .nils, .nils, .nils, .nils], rfl, by omega, by omega, fresh_two, rfl, rfl, H2⟩
  clear H H2
  rintro m ih s h3 hih ⟨r, zs, wv, v, e, hd, ns, xs, rfl, hr3, rfl, Z, hl, hx, H⟩
  dsimp only
  have q1 := Int.tmod_nonneg 3 hr.1
  have q2 := Int.tmod_lt_of_pos rd (show (0 : Int) < 3 by omega)
  refine ww_rem (by omega) ?_
  rw [show rd.tmod ((3 : Nat) : Int) = rd.tmod 3 from rfl]
  generalize rd.tmod 3 = rm at *
  refine ww_convII (by omega) ?_
  by_cases hle : (r : Int) ≤ rm
  rotate_left
  · with_reducible (refine ww_leqF (by omega) ?_; refine ww_condF ?_; refine ww_leave ?_)
    exact ww_ret rfl
  with_reducible (refine ww_leqT (by omega) ?_; refine ww_condT ?_)
  refine ww_iter (fun m s h' => ∃ (i : Nat) (zs : List Int) (wv v : AV) (e : TypeId) (hd : Int) (ns : List (Int × Int)) (xs : List AV), s = (.int .i64 (i : Int), .int .i64 (r : Int), .ptr o 0, wv, .int .u8 rd, a0, ()) ∧ i ≤ 20 ∧ m = 20 - i ∧ TwoQ zs 256 [] 10 hd ns 11 0 [] ∧ xs.length = 8 ∧ xs[4]? = some v ∧
    HS h h' (SliC e 1 zs.length wv (zs.map (.int .u64)) :: ObjC o xs :: RowC v (ns.map (·.2)) :: []))
    ?_ (m := 20) (by show 20 < 1000000000; omega) ⟨0, zs, wv, v, e, hd, ns, xs, rfl, by omega, by omega, Z, hl, hx, H⟩
  clear H Z hl hx
  rintro m ih2 s h4 hih2 ⟨i, zs, wv, v, e, hd, ns, xs, rfl, hi, rfl, Z, hl, hx, H⟩
  dsimp only
  have Sa : Sl (fun _ => True) h4 4 l.length a0 (l.flatMap encL) := (Rd.arg (L := []) S).sl H.drop.drop.drop
  refine ww_len Sa (ww_lss ?_)
  refine ww_join (fun s g' => ∃ (q : AV) (u x : Bool), s = (q, .bool u, .int .i64 (i : Int), .int .i64 (r : Int), .ptr o 0, wv, .int .u8 rd, a0, ()) ∧ g' = h4 ∧ (u = true → q = .bool x) ∧ ((u && x) = decide (i < l.length ∧ i < 20))) ?_ ?_
  · intro j hj
    refine ww_want (fun hl => ww_lss (hj _ _ ⟨_, _, decide (i < 20), rfl, rfl, fun _ => (by congr 1; exact decide_eq_decide.2 (by omega)), ?_⟩)) (fun hl => hj _ _ ⟨_, _, false, rfl, rfl, fun h => absurd (of_decide_eq_true h) hl, ?_⟩)
    · have hl' : i < l.length := by omega
      simp [hl']
    · have hl' : ¬ i < l.length := by omega
      simp [hl']
  rintro s h4 ⟨q, u, x, rfl, rfl, hq, hux⟩
  refine ww_pickAnd2 hq ?_
  rw [hux]
  dsimp only
  refine ww_cond (fun hic => ?_) fun hic => ?_
  rotate_left
  · with_reducible (refine ww_addI (by omega) ?_)
    exact hih (3 - (r + 1)) _ _ (by omega) ⟨r + 1, zs, wv, v, e, hd, ns, xs, rfl, by omega, rfl, Z, hl, hx, H⟩
  have hci : l[i]? = some l[i] := List.getElem?_eq_getElem hic.1
  have hpc := hp l[i] (List.getElem_mem hic.1)
  refine ww_idxN (l := encL l[i]) Sa hic.1 (by omega) (enc_row (sz := 4) (fun _ => rfl) hci) ?_
  generalize l[i] = c at *
  refine ww_callZ (by decide) (mine_ok (by omega) H) ?_
  rintro _ h5 ⟨rfl, H5⟩
  have hwb := within_bounds c.1 (show (7 : Int) ≤ 8 by omega)
  generalize hw0 : withinZ c.1 7 8 = what at *
  refine ww_boxA H5 rfl fun b h6 H6 => ?_
  refine ww_stH H6 (b := b) .here rfl (by simp) rfl fun h7 H7 => ?_
  have H7 : HS h h7 (ObjC b [.int .i64 what, .int .i64 c.2.1, .int .u64 c.2.2.1, .int .u64 c.2.2.2] :: SliC e 1 zs.length wv (zs.map (.int .u64)) :: ObjC o xs :: RowC v (ns.map (·.2)) :: []) := H7
  with_reducible (refine ww_field0 ?_)
  refine ww_st1H H7 (b := b) .here ⟨rfl, rfl⟩ (by simp) fun h8 H8 => ?_
  have H8 : HS h h8 (ObjC b (encL (what, 0, c.2.2.1, c.2.2.2)) :: SliC e 1 zs.length wv (zs.map (.int .u64)) :: ObjC o xs :: RowC v (ns.map (·.2)) :: []) := H8
  refine ww_ldNH H8 (b := b) (off := 0) .here rfl (by omega) rfl ?_
  have hpl : 4 + withinZ 0 0 1 = ((4 : Nat) : Int) := by decide
  refine ww_callZ (by decide) (step_ok (c := (what, 0, c.2.2.1, c.2.2.2)) (j := 4) (by omega) (H8.sub (L' := SliC e 1 zs.length wv (zs.map (.int .u64)) :: ObjC o xs :: RowC v (ns.map (·.2)) :: ObjC b (encL (what, 0, c.2.2.1, c.2.2.2)) :: []) (.cons (.there .here) (.cons (.there .here) (.cons (.there .here) (.cons .here .refl))))) Z hl hx hpl (by omega) (by omega) hpc) ?_
  rintro _ h9 ⟨wv2, e2, zs2, hd2, ns2, v2, rfl, Z2, ov2, H9⟩
  have hfew := Z2.few
  have hx2 : (xs.set 4 v2)[4]? = some v2 := by rw [List.getElem?_set, if_pos rfl, if_pos (by omega)]
  have hl2 : (xs.set 4 v2).length = 8 := by rw [List.length_set]; exact hl
  generalize xs.set 4 v2 = xs2 at *
  with_reducible (refine ww_extract (by with_unfolding_all exact rfl) ?_; refine ww_extract (by with_unfolding_all exact rfl) ?_; refine ww_notT ?_; refine ww_condF ?_)
  refine ww_ldNH H9 (b := b) (off := 0) (.there (.there (.there .here))) rfl (by omega) rfl ?_
  refine ww_callZ (by decide) (kplace_ok (c := (what, 0, c.2.2.1, c.2.2.2)) (by omega) H9 (by omega)) ?_
  rintro _ h10 ⟨rfl, H10⟩
  rw [show 4 + withinZ ((what, (0 : Int), c.2.2.1, c.2.2.2) : CallT).2.1 0 1 = ((4 : Nat) : Int) from hpl]
  with_reducible (refine ww_nil ?_; refine ww_field0 ?_)
  refine ww_idxP (i := 4) (by omega) ?_
  refine ww_ldH H10 (.there .here) hx2 ?_
  refine ww_len (row_sl H10 (.there (.there .here))) ?_
  rw [List.length_map]
  obtain ⟨bts, hb1, hb2, hb3, hb4, _⟩ := Z2.H.blocks
  refine ww_callZ (by decide) (alists_ok (by omega) H10 (Rd.own .here) Z2.H.nn) ?_
  rintro _ h11 ⟨lv, rfl, H11⟩
  rw [hb3]
  simp only [if_true]
  with_reducible (refine ww_extract (by with_unfolding_all exact rfl) ?_; refine ww_extract (by with_unfolding_all exact rfl) ?_; refine ww_neqF (by omega) ?_; refine ww_joinS ?_; (try dsimp only); refine ww_wantFF ?_; (try dsimp only))
  refine ww_callZ (by decide) (live_ok (by omega) H11.drop (Rd.own .here) Z2.H.nn hb1 hb4) ?_
  rintro _ h12 ⟨rfl, H12⟩
  have hcnt : (ownQ hd2 ns2 ++ ownQ 0 []).length ≤ ns2.length + 1 := by
    rw [List.length_append, show ownQ 0 [] = [] from rfl]
    unfold ownQ
    rw [List.length_append, List.length_map]
    split
    · simp
    · show 1 + ns2.length + 0 ≤ _; omega
  skip
  refine ww_mulI (by omega) (ww_addI (by omega) ?_)
  with_reducible (refine ww_gtrF (by omega) ?_; refine ww_pickF ?_; refine ww_condF ?_; refine ww_addI (by omega) ?_)
  exact hih2 (20 - (i + 1)) _ _ (by omega) ⟨i + 1, zs2, wv2, v2, e2, hd2, ns2, xs2, rfl, by omega, rfl, Z2, hl2, hx2, H12.sub (.cons .here (.cons .here (.cons .here (.drop .refl))))⟩

theorem told {h : AH} {l : List AV} (H : WTs Try.prog h 8 Try.f6.params.toList l) : wp (W6 (withRun 3 (callT tab rtab 60)) l h) fun v _ => v = .bool true := by
  have e : Try.f6.params.toList = [34, 5] := by kernel_rfl
  rw [e] at H
  obtain ⟨a0, a1, rfl, H0, H1⟩ := WTs2 H
  simp only [WTV, Try.underlying3, Try.underlying4, Try.underlying5, Try.underlying28, Try.underlying34, Try.underlying36] at H0 H1
  obtain ⟨q, xs, S, _, H2⟩ := WT_slice (sz := 4) Try.underlying34 (by kernel_rfl) (by omega) H0
  obtain ⟨ks, g1, hp, rfl⟩ := rows_enc (α := CallT) (Pr := fun c => 0 ≤ c.2.2.1) encL S.len (fun i hi => by
    have := H2 i hi
    generalize (xs.drop (i * 4)).take 4 = row at this
    unfold WT at this
    simp only [Try.underlying36] at this
    obtain ⟨g1, g2⟩ := this
    rw [show Try.prog.cellsOf 36 = 4 by kernel_rfl] at g1
    match row, g1 with
    | [x, y, z, u], _ =>
      have f1 := g2 _ (List.mem_cons_self ..)
      have f2 := g2 _ (List.mem_cons_of_mem _ (List.mem_cons_self ..))
      have f3 := g2 _ (List.mem_cons_of_mem _ (List.mem_cons_of_mem _ (List.mem_cons_self ..)))
      have f4 := g2 _ (List.mem_cons_of_mem _ (List.mem_cons_of_mem _ (List.mem_cons_of_mem _ (List.mem_cons_self ..))))
      rw [show Try.prog.cellsOf 3 = 1 by kernel_rfl] at f1 f2
      rw [show Try.prog.cellsOf 28 = 1 by kernel_rfl] at f3 f4
      unfold WT at f1 f2 f3 f4
      simp only [Try.underlying3, List.drop_zero, List.take_succ_cons, List.take_zero, List.drop_succ_cons] at f1 f2
      simp only [Try.underlying28, List.drop_succ_cons, List.drop_zero, List.take_succ_cons, List.take_zero] at f3 f4
      obtain ⟨a, ha, _⟩ := f1
      obtain ⟨b, hb, _⟩ := f2
      obtain ⟨c, hc, hc2⟩ := f3
      obtain ⟨d, hd, _⟩ := f4
      cases ha; cases hb; cases hc; cases hd
      exact ⟨(a, b, c, d), hc2.1, rfl⟩)
  unfold WT at H1
  simp only [Try.underlying3, Try.underlying4, Try.underlying5, Try.underlying28, Try.underlying34, Try.underlying36] at H1
  obtain ⟨w, hw, hwb⟩ := H1
  cases hw
  exact law (by omega) (g1 ▸ S) hp hwb
end Go.Proofs.Ythajhlachmgdoaa.queueBlocks
