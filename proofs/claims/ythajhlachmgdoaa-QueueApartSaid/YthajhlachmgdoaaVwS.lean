/- Views: by the document's own text: copies, kept levels, the views. -/
import Derived.Test.YthajhlachmgdoaaVwR
namespace Go.Proofs.Ythajhlachmgdoaa
open Go Go.Ae
set_option maxRecDepth 100000

variable {g h : AH} {L R : List SP}

def frS (lv : List LvM) : Nat := (lv.map fun x => x.2.length).sum
theorem frS_cons (x : LvM) (r : List LvM) : frS (x :: r) = x.2.length + frS r := by simp [frS]
theorem cells_row (l : List AV) (n : Nat) (a b : AV) (tl : List AV) (hl : l.length = n * 2) : ((l ++ [a, b] ++ tl).drop (n * 2)).take 2 = [a, b] := by
  rw [List.append_assoc, ← hl, List.drop_left]; rfl
theorem cells_put (l : List AV) (n : Nat) (a b c d : AV) (hl : l.length = n * 2) : lset (l ++ [a, b]) (n * 2) [c, d] = l ++ [c, d] := by
  unfold lset
  rw [← hl, List.take_left, List.drop_of_length_le (by simp)]; simp

theorem mergeL_keep {x y : LvM} {r : List LvM} : mergeL (keepL (x :: y :: r)).2 = mergeL (x :: y :: r) := by
  unfold mergeL keepL
  simp only [List.foldl_cons]
  rfl
theorem frS_keep {x y : LvM} {r : List LvM} : frS (keepL (x :: y :: r)).2 = frS (x :: y :: r) := by
  unfold frS keepL
  simp
  omega
theorem freesL_frS (lv : List LvM) : (freesL lv).length = frS lv := by
  unfold freesL frS
  rw [List.length_flatMap, List.map_reverse, rsum]

/-! ### views -/
def RvC (o : Nat) (M : VM) : SP := .ex fun kv => .ex fun q => .all [ObjC o [.int .i64 (M.sz : Int), kv, .ptr q 0, .int .i64 M.need], SliC 53 2 M.K.length kv (M.K.flatMap encC), RgC q M.most M.lv]
theorem RvC.E {o : Nat} {M : VM} (H : HS g h (RvC o M :: R)) : ∃ kv q, HS g h (ObjC o [.int .i64 (M.sz : Int), kv, .ptr q 0, .int .i64 M.need] :: SliC 53 2 M.K.length kv (M.K.flatMap encC) :: RgC q M.most M.lv :: R) := by
  obtain ⟨kv, H⟩ := H.exE
  obtain ⟨q, H⟩ := H.exE
  exact ⟨kv, q, H.allE⟩
theorem RvC.I {o : Nat} {M : VM} {kv : AV} {q : Nat} (H : HS g h (ObjC o [.int .i64 (M.sz : Int), kv, .ptr q 0, .int .i64 M.need] :: SliC 53 2 M.K.length kv (M.K.flatMap encC) :: RgC q M.most M.lv :: R)) : HS g h (RvC o M :: R) :=
  HS.exI kv (HS.exI q (HS.allI H))

theorem rvnew_ok {n : Nat} (hn : 3 ≤ n) {w m : Int} (H : HS g h R) : wp (callT tab rtab n (.fn 97 [] []) [.int .i64 w, .int .i64 m] h) fun r h' => ∃ o, r = .ptr o 0 ∧ HS g h' (RvC o (newV w m) :: R) := by
  (refine ww_fn (g := W97) rfl (by omega) fun k hk => ?_; show wp (S97 (callT tab rtab k) _ _ _) _; unfold S97; try simp only [Int.ofNat_eq_natCast])
  refine ww_call (rheld_ok (by omega) (by omega)) ?_
  rintro _ _ ⟨rfl, rfl⟩
  refine ww_call (rlnew_ok (by omega) H) ?_
  rintro _ h2 ⟨q, rfl, H2⟩
  refine ww_build rfl (ww_boxA H2 rfl fun o h4 H4 => ww_ret ⟨o, rfl, ?_⟩)
  rw [show max ((32 : Nat) : Int) (min w ((256 : Nat) : Int)) = ((szZ w : Nat) : Int) by unfold szZ; omega] at H4
  have H5 := H4.nils (e := 53) (sz := 2)
  exact RvC.I (M := newV w m) (kv := .nils) (q := q) (H5.sub (.cons (.there .here) (.cons .here (.cons .here .refl))))

theorem rvin_ok {n : Nat} (hn : 1 ≤ n) {o : Nat} {M : VM} {p : Int} (H : HS g h (RvC o M :: R)) : wp (callT tab rtab n (.fn 90 [] []) [.ptr o 0, .int .i64 p] h) fun r h' => r = .bool (decide (1 ≤ p ∧ p < M.sz)) ∧ h' = h := by
  (refine ww_fn (g := W90) rfl (by omega) fun k hk => ?_; show wp (S90 (callT tab rtab k) _ _ _) _; unfold S90; try simp only [Int.ofNat_eq_natCast])
  obtain ⟨kv, q, H⟩ := RvC.E H
  by_cases h1 : 1 ≤ p
  · with_reducible (refine ww_geqT (by omega) ?_; refine ww_joinS ?_; (try dsimp only); refine ww_wantTT ?_; (try dsimp only); refine ww_nil ?_; refine ww_field0 ?_; refine ww_ldH (by assumption) .here (by with_unfolding_all exact rfl) ?_)
    refine ww_lss ?_
    with_reducible (refine ww_pickT ?_)
    refine ww_ret ⟨?_, rfl⟩
    congr 1
    exact decide_eq_decide.2 ⟨fun h2 => ⟨h1, h2⟩, fun h2 => h2.2⟩
  · with_reducible (refine ww_geqF (by omega) ?_; refine ww_joinS ?_; (try dsimp only); refine ww_wantFT ?_; (try dsimp only); refine ww_pickF ?_)
    exact ww_ret ⟨by rw [decide_eq_false (fun h2 => h1 h2.1)], rfl⟩

theorem rvwhole_ok {n : Nat} (hn : 4 ≤ n) {zs : List Int} {a0 : AV} {m : Int} (H : HS g h R) (S : Rd g R 1 zs.length a0 (zs.map (.int .u64))) :
    wp (callT tab rtab n (.fn 89 [] []) [a0, .int .i64 m] h) fun r h' => ∃ o, r = .ptr o 0 ∧ HS g h' (RvC o (wholeV zs m) :: R) := by
  (refine ww_fn (g := W89) rfl (by omega) fun k hk => ?_; show wp (S89 (callT tab rtab k) _ _ _) _; unfold S89; try simp only [Int.ofNat_eq_natCast])
  have hb := szZ_b (zs.length : Int)
  refine ww_len (S.sl H) ?_
  refine ww_call (rvnew_ok (by omega) H) ?_
  rintro _ h1 ⟨o, rfl, H1⟩
  refine ww_iter (fun k s h' => ∃ i : Nat, s = (.int .i64 ((i + 1 : Nat) : Int), .ptr o 0, a0, ()) ∧ i + 1 ≤ szZ zs.length ∧ k = szZ zs.length - (i + 1) ∧ HS g h' (RvC o (preV zs m i) :: R)) ?_ (m := szZ zs.length - 1) (by show _ < 1000000000; omega) ⟨0, rfl, by omega, by omega, H1⟩
  rintro k2 ih s h' hih ⟨i, rfl, h1, rfl, H⟩
  dsimp only
  have hH := H
  obtain ⟨kv, q, H⟩ := RvC.E H
  with_reducible (refine ww_nil ?_; refine ww_field0 ?_; refine ww_ldH (by assumption) .here (by with_unfolding_all exact rfl) ?_)
  show wp (pInt .lss _ (.int .i64 ((szZ zs.length : Nat) : Int)) _) _
  refine ww_lssC (fun hlt => ww_condT ?_) fun hge => ww_condF (ww_leave (ww_ret ⟨o, rfl, ?_⟩))
  · have hi : i + 1 < szZ zs.length := by omega
    have hkt : ((kW zs).take i).length = i := by rw [List.length_take, kW_len]; omega
    refine ww_joinD [] (fun s g' => s = (.int .u64 (wordAt zs (i + 1)), .int .i64 ((i + 1 : Nat) : Int), .ptr o 0, a0, ()) ∧ g' = h') ?_ ?_
    · intro j hj
      refine ww_len (S.sl hH.drop) ?_
      refine ww_lssC (fun hl => ww_condT ?_) fun hl => ww_condF ?_
      · refine ww_idx1 (S.sl hH.drop) (x := .int .u64 (wordAt zs (i + 1))) ?_ (hj _ _ ⟨rfl, rfl⟩)
        unfold wordAt
        rw [List.getElem?_map, List.getElem?_eq_getElem (by omega)]; rfl
      · refine hj _ _ ⟨?_, rfl⟩
        unfold wordAt
        rw [List.getElem?_eq_none (by omega)]; rfl
    · rintro s g' ⟨rfl, rfl⟩
      dsimp only
      with_reducible (refine ww_nil ?_; refine ww_field0 ?_; refine ww_ldH (by assumption) .here (by with_unfolding_all exact rfl) ?_; refine ww_build (by with_unfolding_all exact rfl) ?_)
      refine ww_buildSH (n := 1) (l := [.int .i64 ((i + 1 : Nat) : Int), .int .u64 (wordAt zs (i + 1))]) (sz := 2) H rfl rfl rfl rfl fun v7 h7 H7 => ?_
      have H7' : HS g h7 (SliC 53 2 1 v7 [.int .i64 ((i + 1 : Nat) : Int), .int .u64 (wordAt zs (i + 1))] :: ObjC o [.int .i64 ((szZ zs.length : Nat) : Int), kv, .ptr q 0, .int .i64 0] ::
        SliC 53 2 ((kW zs).take i).length kv (((kW zs).take i).flatMap encC) :: RgC q (preV zs m i).most (preV zs m i).lv :: R) := H7
      refine ww_appH (H7'.sel (.there (.there .here))) (H7'.sl .here) (by omega) (by omega) rfl fun v8 h8 H8 => ?_
      with_reducible (refine ww_nil ?_; refine ww_field0 ?_)
      refine ww_st1H H8 (b := o) (.there (.there .here)) (H8.one .here) (by simp) fun h9 H9 => ?_
      simp only [List.set_cons_zero, List.set_cons_succ] at H9
      refine ww_addI (by omega) (hih (szZ zs.length - (i + 1 + 1)) _ _ (by omega) ⟨i + 1, rfl, by omega, rfl, RvC.I (kv := v8) (q := q) ?_⟩)
      have e1 : (preV zs m (i + 1)).K = (kW zs).take i ++ [(((i + 1 : Nat) : Int), wordAt zs (i + 1))] := by
        show (kW zs).take (i + 1) = _
        rw [List.take_add_one, kW_get zs hi]; rfl
      rw [e1, List.flatMap_append, List.length_append]
      exact H9.sub (.cons .here (.cons .here (.drop .refl)))
  · have hi : i = (kW zs).length := by rw [kW_len]; omega
    subst hi
    unfold preV at hH
    rw [List.take_length] at hH
    exact hH
end Go.Proofs.Ythajhlachmgdoaa
