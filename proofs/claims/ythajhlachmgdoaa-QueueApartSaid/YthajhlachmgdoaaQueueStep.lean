/- Queues: a call beside plain rows: the walks. -/
import Derived.Test.YthajhlachmgdoaaQueueL
import Derived.Test.YthajhlachmgdoaaArenaLs
import Derived.Test.YthajhlachmgdoaaVwX
namespace Go.Proofs.Ythajhlachmgdoaa.arenaParts
open Go Go.Ae arenaPlays
set_option maxRecDepth 100000

variable {g h : AH} {L R : List SP}

/-- a plain row -/
def RowC (v : AV) (row : List Int) : SP := SliC 88 2 row.length v ((rowP row).flatMap encPr)
theorem row_sl {v : AV} {row : List Int} (H : HS g h L) (s : Sel L (RowC v row) R) : Sl (fun _ => True) h 2 row.length v ((rowP row).flatMap encPr) := HS.sl (e := 88) H s
theorem allOne_encPr (l : List (Int × Int)) : allOne (l.flatMap encPr) = true := by
  unfold allOne
  rw [List.all_eq_true]
  intro v hv
  obtain ⟨c, _, hc⟩ := List.mem_flatMap.1 hv
  simp [encPr] at hc
  rcases hc with rfl | rfl <;> rfl
theorem odo_ok {n : Nat} (hn : 4 ≤ n) {o j : Nat} {xs : List AV} {vj : AV} {row : List Int} {c : CallT} (H : HS g h (ObjC o xs :: RowC vj row :: R)) (hl : xs.length = 8) (hx : xs[j]? = some vj) (hj : 4 + withinZ c.2.1 0 1 = (j : Int)) (hw : c.1 = 7 ∨ c.1 = 8) (hrl : row.length < 1000) :
    wp (callT tab rtab n (.fn 42 [] []) [.ptr o 0, .agg (encL c)] h) fun r h' => ∃ v', r = .tup [.agg (encIt (rowR c.1 (c.2.2.1.tmod 12) row).1), .bool (rowR c.1 (c.2.2.1.tmod 12) row).2.1] ∧ One v' ∧
      HS g h' (ObjC o (xs.set j v') :: RowC v' (rowR c.1 (c.2.2.1.tmod 12) row).2.2 :: R) := by
  (refine ww_fn (g := W42) rfl (by omega) fun k hk => ?_; show wp (S42 (callT tab rtab k) _ _ _) _; unfold S42; try simp only [Int.ofNat_eq_natCast])
  have hj8 : j < 8 := by have := (List.getElem?_eq_some_iff.1 hx).1; omega
  refine ww_boxA H rfl fun b h1 H1 => ?_
  refine ww_boxA H1 rfl fun b2 h2 H2 => ?_
  have H2 : HS g h2 (ObjC b2 [.int .i64 ((0 : Nat) : Int), .int .u64 ((0 : Nat) : Int)] :: ObjC b (encL c) :: ObjC o xs :: RowC vj row :: R) := H2
  refine ww_joinS ?_
  refine ww_ldNH H2 (b := b) (off := 0) (.there .here) rfl (by omega) rfl ?_
  refine ww_call (kplace_ok (c := c) (by omega) H2 hw) ?_
  rintro _ h3 ⟨rfl, H3⟩
  rw [hj]
  refine ww_ldNH H3 (b := b) (off := 0) (.there .here) rfl (by omega) rfl ?_
  refine ww_call (kkey_ok (c := c) (by omega) H3) ?_
  rintro _ h4 ⟨rfl, H4⟩
  refine ww_ldNH H4 (b := b) (off := 0) (.there .here) rfl (by omega) rfl ?_
  refine ww_call (kval_ok (c := c) (by omega) H4) ?_
  rintro _ h5 ⟨rfl, H5⟩
  refine ww_chkNH H3 (b := b) (.there .here) rfl H4 (.there .here) rfl rfl (by omega) (HS.lt H2 (.there .here)) ?_
  refine ww_chkNH H2 (b := b) (.there .here) rfl H3 (.there .here) rfl rfl (by omega) (HS.lt H2 (.there .here)) ?_
  refine ww_chkNH H2 (b := b) (.there .here) rfl H3 (.there .here) rfl rfl (by omega) (HS.lt H2 (.there .here)) ?_
  clear H H1 H2 H3 H4
  refine ww_ldNH H5 (b := b) (off := 0) (.there .here) rfl (by omega) rfl ?_
  refine ww_call (kwhich_ok (c := c) (by omega) H5 (by omega)) ?_
  rintro _ h6 ⟨rfl, H⟩
  clear H5
  generalize c.2.2.1.tmod 12 = x at *
  unfold rowR
  rcases hw with hw | hw
  · rw [if_pos hw]
    with_reducible (refine ww_joinS ?_; (try dsimp only); refine ww_eqlF (by omega) ?_; refine ww_condF ?_; refine ww_joinS ?_; (try dsimp only); refine ww_eqlF (by omega) ?_; refine ww_condF ?_; refine ww_eqlF (by omega) ?_; refine ww_condF ?_; refine ww_joinS ?_; (try dsimp only); refine ww_eqlF (by omega) ?_; refine ww_condF ?_; refine ww_eqlF (by omega) ?_; refine ww_condF ?_; refine ww_eqlF (by omega) ?_; refine ww_condF ?_; refine ww_eqlF (by omega) ?_; refine ww_condF ?_; refine ww_joinS ?_; (try dsimp only); refine ww_eqlF (by omega) ?_; refine ww_condF ?_; refine ww_eqlF (by omega) ?_; refine ww_condF ?_; refine ww_eqlT (by omega) ?_; refine ww_condT ?_; refine ww_nil ?_; refine ww_field0 ?_)
    refine ww_idxP (i := j) hj8 ?_
    rw [show 0 + j * 1 = j by omega]
    refine ww_ldH H (.there (.there .here)) hx ?_
    refine ww_appH (HS.nils H) (row_sl H (.there (.there (.there .here)))) (by omega) (by omega) (allOne_encPr _) fun v1 h7 H7 => ?_
    rw [List.nil_append, Nat.zero_add] at H7
    refine ww_build (l := encPr (0, x)) rfl ?_
    refine ww_buildSH (n := 1) (l := encPr (0, x)) (sz := 2) H7 rfl rfl rfl rfl fun v2 h8 H8 => ?_
    refine ww_appH (H8.sel (.there .here)) (H8.sl .here) (by omega) (by omega) rfl fun v3 h9 H9 => ?_
    have o3 := H9.one .here
    with_reducible (refine ww_nil ?_; refine ww_field0 ?_)
    refine ww_idxP (i := j) hj8 ?_
    rw [show 0 + j * 1 = j by omega]
    refine ww_st1H H9 (b := o) (.there (.there (.there (.there .here)))) o3 (by omega) fun h10 H10 => ?_
    with_reducible (refine ww_build (by with_unfolding_all exact rfl) ?_)
    refine ww_stH H10 (b := b2) (.there (.there (.there .here))) rfl (by simp) rfl fun h11 H11 => ?_
    with_reducible (refine ww_leave ?_)
    refine ww_ldNH H11 (b := b2) (off := 0) .here rfl (by omega) rfl ?_
    refine ww_ret ⟨v3, rfl, o3, ?_⟩
    have e : RowC v3 (row ++ [x]) = SliC 88 2 (row.length + 1) v3 ((rowP row).flatMap encPr ++ encPr (0, x)) := by
      unfold RowC rowP
      rw [List.map_append, List.flatMap_append, List.length_append]; rfl
    rw [e]
    exact H11.sub (.cons (.there .here) (.cons (.there .here) (.drop (.drop (.drop (.drop .refl))))))
  · rw [if_neg (by omega)]
    cases row with
    | nil =>
      with_reducible (refine ww_joinS ?_; (try dsimp only); refine ww_eqlF (by omega) ?_; refine ww_condF ?_; refine ww_joinS ?_; (try dsimp only); refine ww_eqlF (by omega) ?_; refine ww_condF ?_; refine ww_eqlF (by omega) ?_; refine ww_condF ?_; refine ww_joinS ?_; (try dsimp only); refine ww_eqlF (by omega) ?_; refine ww_condF ?_; refine ww_eqlF (by omega) ?_; refine ww_condF ?_; refine ww_eqlF (by omega) ?_; refine ww_condF ?_; refine ww_eqlF (by omega) ?_; refine ww_condF ?_; refine ww_joinS ?_; (try dsimp only); refine ww_eqlF (by omega) ?_; refine ww_condF ?_; refine ww_eqlF (by omega) ?_; refine ww_condF ?_; refine ww_eqlF (by omega) ?_; refine ww_condF ?_; refine ww_eqlT (by omega) ?_; refine ww_condT ?_; refine ww_nil ?_; refine ww_field0 ?_)
      refine ww_idxP (i := j) hj8 ?_
      rw [show 0 + j * 1 = j by omega]
      refine ww_ldH H (.there (.there .here)) hx ?_
      refine ww_len (row_sl H (.there (.there (.there .here)))) ?_
      rw [show ([] : List Int).length = 0 from rfl]
      with_reducible (refine ww_eqlT (by omega) ?_; refine ww_condT ?_; refine ww_build (by with_unfolding_all exact rfl) ?_)
      refine ww_stH H (b := b2) .here rfl (by simp) rfl fun h11 H11 => ?_
      with_reducible (refine ww_leave ?_)
      refine ww_ldNH H11 (b := b2) (off := 0) .here rfl (by omega) rfl ?_
      have e : xs.set j vj = xs := by
        apply List.ext_getElem?
        intro i
        rw [List.getElem?_set]
        by_cases hi : j = i
        · subst hi; rw [if_pos rfl, if_pos (by omega)]; exact hx.symm
        · rw [if_neg hi]
      refine ww_ret ⟨vj, rfl, sl_one1 (row_sl H (.there (.there (.there .here)))), ?_⟩
      rw [e]
      exact H11.sub (.cons (.there (.there .here)) (.cons (.there (.there .here)) (.drop (.drop .refl))))
    | cons y row =>
      with_reducible (refine ww_joinS ?_; (try dsimp only); refine ww_eqlF (by omega) ?_; refine ww_condF ?_; refine ww_joinS ?_; (try dsimp only); refine ww_eqlF (by omega) ?_; refine ww_condF ?_; refine ww_eqlF (by omega) ?_; refine ww_condF ?_; refine ww_joinS ?_; (try dsimp only); refine ww_eqlF (by omega) ?_; refine ww_condF ?_; refine ww_eqlF (by omega) ?_; refine ww_condF ?_; refine ww_eqlF (by omega) ?_; refine ww_condF ?_; refine ww_eqlF (by omega) ?_; refine ww_condF ?_; refine ww_joinS ?_; (try dsimp only); refine ww_eqlF (by omega) ?_; refine ww_condF ?_; refine ww_eqlF (by omega) ?_; refine ww_condF ?_; refine ww_eqlF (by omega) ?_; refine ww_condF ?_; refine ww_eqlT (by omega) ?_; refine ww_condT ?_; refine ww_nil ?_; refine ww_field0 ?_)
      refine ww_idxP (i := j) hj8 ?_
      rw [show 0 + j * 1 = j by omega]
      refine ww_ldH H (.there (.there .here)) hx ?_
      refine ww_len (row_sl H (.there (.there (.there .here)))) ?_
      rw [show (y :: row).length = row.length + 1 from rfl]
      with_reducible (refine ww_eqlF (by omega) ?_; refine ww_condF ?_; refine ww_nil ?_; refine ww_field0 ?_)
      refine ww_idxP (i := j) hj8 ?_
      rw [show 0 + j * 1 = j by omega]
      refine ww_ldH H (.there (.there .here)) hx ?_
      refine ww_idxF (i := 0) (x := .int .u64 y) (row_sl H (.there (.there (.there .here)))) (by omega) (by simp) rfl ?_
      with_reducible (refine ww_nil ?_; refine ww_field0 ?_)
      refine ww_idxP (i := j) hj8 ?_
      rw [show 0 + j * 1 = j by omega]
      refine ww_ldH H (.there (.there .here)) hx ?_
      refine ww_cutLH (lo := 1) (H.sel (P := RowC vj (y :: row)) (.there (.there (.there .here)))) (by omega) (by simp) (by simp) fun v1 S1 => ?_
      refine ww_appH (HS.nils H) S1 (by omega) (by simp at hrl ⊢; omega) ?_ fun v3 h9 H9 => ?_
      · have e : ((rowP (y :: row)).flatMap encPr).drop (1 * 2) = (rowP row).flatMap encPr := rfl
        rw [e]; exact allOne_encPr _
      have e : ((rowP (y :: row)).flatMap encPr).drop (1 * 2) = (rowP row).flatMap encPr := rfl
      rw [List.nil_append, Nat.zero_add, e] at H9
      have H9 : HS g h9 (RowC v3 row :: ObjC b2 [.int .i64 ((0 : Nat) : Int), .int .u64 ((0 : Nat) : Int)] :: ObjC b (encL c) :: ObjC o xs :: RowC vj (y :: row) :: R) := H9
      have o3 : One v3 := HS.one (e := 88) H9 .here
      with_reducible (refine ww_nil ?_; refine ww_field0 ?_)
      refine ww_idxP (i := j) hj8 ?_
      rw [show 0 + j * 1 = j by omega]
      refine ww_st1H H9 (b := o) (.there (.there (.there .here))) o3 (by omega) fun h10 H10 => ?_
      refine ww_build (l := encIt (1, y)) rfl ?_
      refine ww_stH H10 (b := b2) (.there (.there .here)) rfl (by simp [encIt]) rfl fun h11 H11 => ?_
      with_reducible (refine ww_leave ?_)
      refine ww_ldNH H11 (b := b2) (off := 0) .here rfl (by omega) rfl ?_
      exact ww_ret ⟨v3, rfl, o3, H11.sub (.cons (.there .here) (.cons (.there .here) (.drop (.drop (.drop .refl)))))⟩
end Go.Proofs.Ythajhlachmgdoaa.arenaParts
