/- Queues: the law's own functions: the walks. -/
import Derived.Test.YthajhlachmgdoaaQueueD
import Derived.Test.YthajhlachmgdoaaBookSameP
import Derived.Test.YthajhlachmgdoaaBookWithin
namespace Go.Proofs.Ythajhlachmgdoaa.arenaParts
open Go Go.Ae arenaPlays
set_option maxRecDepth 100000

variable {g h : AH} {L R : List SP}

theorem ww_idxA {cs : List AV} {i n sz : Nat} {x : AV} {k : IntKind} {K : AV → Go.Ae.R} {Q : AV → AH → Prop} (hi : i < n) (hx : cs[i * sz]? = some x) (w : wp (K x) Q) : wp (pIdxA1 (.agg cs) (.int k (i : Int)) n sz K) Q := by
  show wp (bif Nat.ble (i + 1) n then ob (lget cs (i * sz)) K else none) Q
  rw [Nat.ble_eq_true_of_le hi, cond_true, lget_eq, hx]
  exact w
theorem ww_idxP {b off i n sz : Nat} {k : IntKind} {K : AV → Go.Ae.R} {Q : AV → AH → Prop} (hi : i < n) (w : wp (K (.ptr b (off + i * sz))) Q) : wp (pIdxP (.ptr b off) (.int k (i : Int)) n sz K) Q := by
  show wp (bif Nat.ble (i + 1) n then K (.ptr b (off + i * sz)) else none) Q
  rw [Nat.ble_eq_true_of_le hi, cond_true]
  exact w
abbrev CallT : Type := Int × Int × Int × Int
def encL (c : CallT) : List AV := [.int .i64 c.1, .int .i64 c.2.1, .int .u64 c.2.2.1, .int .u64 c.2.2.2]
def encIt (x : Int × Int) : List AV := [.int .i64 x.1, .int .u64 x.2]
theorem it_eq (x y : Int × Int) : partsEq [.bas .int 0, .bas .int 1] (encIt x) (encIt y) = some (decide (x = y)) := by
  obtain ⟨a, b⟩ := x
  obtain ⟨a', b'⟩ := y
  show (bif ieq a a' then (bif ieq b b' then some true else some false) else some false) = _
  rw [ieq_dec, ieq_dec]
  by_cases h1 : a = a' <;> by_cases h2 : b = b' <;> simp [h1, h2]

theorem kwhich_ok {n : Nat} (hn : 1 ≤ n) {c : CallT} (H : HS g h R) (hw : 1 ≤ c.1 ∧ c.1 ≤ 12) : wp (callT tab rtab n (.fn 47 [] []) [.agg (encL c)] h) fun v h' => v = .int .i64 c.1 ∧ HS g h' R := by
  (refine ww_fn (g := W47) rfl (by omega) fun k hk => ?_; show wp (S47 (callT tab rtab k) _ _) _; unfold S47; try simp only [Int.ofNat_eq_natCast])
  refine ww_boxA H rfl fun b h1 H1 => ?_
  unfold encL at H1
  with_reducible (refine ww_field0 ?_; refine ww_ldH (by assumption) .here (by with_unfolding_all exact rfl) ?_; refine ww_geqT (by omega) ?_; refine ww_joinS ?_; (try dsimp only); refine ww_wantTT ?_; (try dsimp only); refine ww_field0 ?_; refine ww_ldH (by assumption) .here (by with_unfolding_all exact rfl) ?_; refine ww_leqT (by omega) ?_; refine ww_pickT ?_; refine ww_condT ?_; refine ww_field0 ?_; refine ww_ldH (by assumption) .here (by with_unfolding_all exact rfl) ?_)
  exact ww_ret ⟨rfl, H1.drop⟩
theorem kkey_ok {n : Nat} (hn : 1 ≤ n) {c : CallT} (H : HS g h R) : wp (callT tab rtab n (.fn 49 [] []) [.agg (encL c)] h) fun v h' => v = .int .u64 (c.2.2.1.tmod 12) ∧ HS g h' R := by
  (refine ww_fn (g := W49) rfl (by omega) fun k hk => ?_; show wp (S49 (callT tab rtab k) _ _) _; unfold S49; try simp only [Int.ofNat_eq_natCast])
  refine ww_boxA H rfl fun b h1 H1 => ?_
  unfold encL at H1
  with_reducible (refine ww_field0 ?_; refine ww_ldH (by assumption) .here (by with_unfolding_all exact rfl) ?_)
  exact ww_rem (by omega) (ww_ret ⟨rfl, H1.drop⟩)
theorem kval_ok {n : Nat} (hn : 1 ≤ n) {c : CallT} (H : HS g h R) : wp (callT tab rtab n (.fn 68 [] []) [.agg (encL c)] h) fun v h' => v = .int .u64 (c.2.2.2.tmod 12) ∧ HS g h' R := by
  (refine ww_fn (g := W68) rfl (by omega) fun k hk => ?_; show wp (S68 (callT tab rtab k) _ _) _; unfold S68; try simp only [Int.ofNat_eq_natCast])
  refine ww_boxA H rfl fun b h1 H1 => ?_
  unfold encL at H1
  with_reducible (refine ww_field0 ?_; refine ww_ldH (by assumption) .here (by with_unfolding_all exact rfl) ?_)
  exact ww_rem (by omega) (ww_ret ⟨rfl, H1.drop⟩)
theorem kplace_ok {n : Nat} (hn : 2 ≤ n) {c : CallT} (H : HS g h R) (hw : c.1 = 7 ∨ c.1 = 8) : wp (callT tab rtab n (.fn 14 [] []) [.agg (encL c)] h) fun v h' => v = .int .i64 (4 + withinZ c.2.1 0 1) ∧ HS g h' R := by
  (refine ww_fn (g := W14) rfl (by omega) fun k hk => ?_; show wp (S14 (callT tab rtab k) _ _) _; unfold S14; try simp only [Int.ofNat_eq_natCast])
  refine ww_boxA H rfl fun b h1 H1 => ?_
  have H1 : HS g h1 (ObjC b (encL c) :: R) := H1
  refine ww_build rfl ?_
  refine ww_ldNH H1 (b := b) (off := 0) .here rfl (by omega) rfl ?_
  refine ww_call (kwhich_ok (by omega) H1 (by omega)) ?_
  rintro _ h2 ⟨rfl, H2⟩
  have hb := within_bounds c.2.1 (show (0 : Int) ≤ 1 by omega)
  obtain ⟨w, hwe⟩ : ∃ w : Nat, c.1 = (w : Int) := ⟨c.1.toNat, by omega⟩
  rw [hwe]
  refine ww_idxA (x := .int .i64 2) (by omega) (by
    rcases hw with h | h
    · obtain rfl : w = 7 := by omega
      rfl
    · obtain rfl : w = 8 := by omega
      rfl) ?_
  refine ww_mulI (by decide) ?_
  unfold encL at H2
  with_reducible (refine ww_field0 ?_; refine ww_ldH (by assumption) .here (by with_unfolding_all exact rfl) ?_)
  refine ww_call (within_ok (by omega) (by omega) (by omega) (by omega)) ?_
  rintro _ h3 ⟨rfl, rfl⟩
  rw [show withinZ c.2.1 ((0 : Nat) : Int) ((1 : Nat) : Int) = withinZ c.2.1 0 1 from rfl]
  refine ww_addI (by omega) (ww_ret ⟨?_, H2.drop⟩)
  congr 1
theorem mine_ok {n : Nat} (hn : 2 ≤ n) {c : CallT} (H : HS g h R) : wp (callT tab rtab n (.fn 13 [] []) [.agg (encL c)] h) fun v h' => v = .agg (encL (withinZ c.1 7 8, c.2)) ∧ HS g h' R := by
  (refine ww_fn (g := W13) rfl (by omega) fun k hk => ?_; show wp (S13 (callT tab rtab k) _ _) _; unfold S13; try simp only [Int.ofNat_eq_natCast])
  refine ww_boxA H rfl fun b h1 H1 => ?_
  refine ww_boxA H1 rfl fun b2 h2 H2 => ?_
  unfold encL at H2
  with_reducible (refine ww_field0 ?_; refine ww_ldH (by assumption) (.there .here) (by with_unfolding_all exact rfl) ?_)
  refine ww_call (within_ok (by omega) (by omega) (by omega) (by omega)) ?_
  rintro _ h3 ⟨rfl, rfl⟩
  rw [show withinZ c.1 ((7 : Nat) : Int) ((8 : Nat) : Int) = withinZ c.1 7 8 from rfl]
  with_reducible (refine ww_field0 ?_)
  refine ww_st1H H2 (b := b) (.there .here) ⟨rfl, rfl⟩ (by simp) fun h4 H4 => ?_
  have H4 : HS g h4 (ObjC b (encL (withinZ c.1 7 8, c.2)) :: ObjC b2 [.int .i64 ((0 : Nat) : Int), .int .i64 ((0 : Nat) : Int), .int .u64 ((0 : Nat) : Int), .int .u64 ((0 : Nat) : Int)] :: R) := H4
  refine ww_ldNH H4 (b := b) (off := 0) .here rfl (by omega) rfl ?_
  refine ww_stH H4 (b := b2) (.there .here) rfl (by simp) rfl fun h5 H5 => ?_
  have H5 : HS g h5 (ObjC b2 (encL (withinZ c.1 7 8, c.2)) :: ObjC b (encL (withinZ c.1 7 8, c.2)) :: R) := H5
  refine ww_ldNH H5 (b := b2) (off := 0) .here rfl (by omega) rfl ?_
  exact ww_ret ⟨rfl, H5.drop.drop⟩

theorem qcall_ok {n : Nat} (hn : 16 ≤ n) {v : Nat} {M : VM} {root : Int} {c : CallT} (H : HS g h (ViewC v M :: R)) (G : GoodV M) (hlv : M.lv = [([], [])]) (hr : 6 ≤ root ∧ root < 14) (hw : c.1 = 7 ∨ c.1 = 8) (hkk : 0 ≤ c.2.2.1)
    (hs : (doR M (takeAc M.sz root)).1 = 0 → (runA (takeAc M.sz root) ⟨lvV M.sz M.K [] [] 0, 0, 0⟩).1.isSome) :
    wp (callT tab rtab n (.fn 16 [] []) [.ptr v 0, .int .i64 root, .agg (encL c)] h) fun r h' => r = .tup [.agg (encIt (callR M root c.1 (c.2.2.1.tmod 12)).1), .int .i64 (callR M root c.1 (c.2.2.1.tmod 12)).2.1] ∧
      HS g h' (ViewC v (callR M root c.1 (c.2.2.1.tmod 12)).2.2 :: R) := by
  (refine ww_fn (g := W16) rfl (by omega) fun k hk => ?_; show wp (S16 (callT tab rtab k) _ _ _ _) _; unfold S16; try simp only [Int.ofNat_eq_natCast])
  refine ww_boxA H rfl fun b h1 H1 => ?_
  have H1 : HS g h1 (ObjC b (encL c) :: ViewC v M :: R) := H1
  refine ww_boxA H1 rfl fun b2 h2 H2 => ?_
  refine ww_ldNH H2 (b := b) (off := 0) (.there .here) rfl (by omega) rfl ?_
  refine ww_call (kwhich_ok (c := c) (by omega) H2 (by omega)) ?_
  rintro _ h3 ⟨rfl, H3⟩
  have hkb1 := Int.tmod_nonneg 12 hkk
  have hkb2 := Int.tmod_lt_of_pos c.2.2.1 (show (0 : Int) < 12 by omega)
  unfold callR
  rcases hw with hw | hw
  · rw [hw, if_pos rfl]
    with_reducible (refine ww_eqlT (by omega) ?_; refine ww_condT ?_; refine ww_build (by with_unfolding_all exact rfl) ?_)
    refine ww_ldNH H3 (b := b) (off := 0) (.there .here) rfl (by omega) rfl ?_
    refine ww_call (kkey_ok (c := c) (by omega) H3) ?_
    rintro _ h4 ⟨rfl, H4⟩
    refine ww_call (qpush_ok (by omega) (H4.sel (.there (.there .here))) G hlv hr (by omega)) ?_
    rintro _ h5 ⟨rfl, H5⟩
    refine ww_stH H5 (b := b2) (.there .here) rfl (by simp) rfl fun h6 H6 => ?_
    refine ww_ldNH H6 (b := b2) (off := 0) .here rfl (by omega) rfl ?_
    exact ww_ret ⟨rfl, H6.sub (.cons (.there .here) (.drop (.drop .refl)))⟩
  · rw [hw, if_neg (by omega)]
    with_reducible (refine ww_eqlF (by omega) ?_; refine ww_condF ?_)
    refine ww_call (qtake_ok (by omega) (H3.sel (.there (.there .here))) G hlv hr) ?_
    rintro r h4 ⟨r1, r2, H4⟩
    generalize hX : doR M (takeAc M.sz root) = X at *
    generalize (runA (takeAc M.sz root) ⟨lvV M.sz M.K [] [] 0, 0, 0⟩).1 = o at *
    obtain ⟨e, M'⟩ := X
    dsimp only at *
    by_cases he : e = 0
    · subst he
      obtain ⟨⟨x, t⟩, rfl⟩ := Option.isSome_iff_exists.1 (hs rfl)
      rw [r1 rfl x t rfl]
      cases t
      · with_reducible (refine ww_extract (by with_unfolding_all exact rfl) ?_; refine ww_extract (by with_unfolding_all exact rfl) ?_; refine ww_extract (by with_unfolding_all exact rfl) ?_; refine ww_notF ?_; refine ww_condT ?_; refine ww_build (by with_unfolding_all exact rfl) ?_)
        refine ww_stH H4 (b := b2) (.there .here) rfl (by simp) rfl fun h6 H6 => ?_
        refine ww_ldNH H6 (b := b2) (off := 0) .here rfl (by omega) rfl ?_
        exact ww_ret ⟨rfl, H6.sub (.cons (.there .here) (.drop (.drop .refl)))⟩
      · with_reducible (refine ww_extract (by with_unfolding_all exact rfl) ?_; refine ww_extract (by with_unfolding_all exact rfl) ?_; refine ww_extract (by with_unfolding_all exact rfl) ?_; refine ww_notT ?_; refine ww_condF ?_; refine ww_build (by with_unfolding_all exact rfl) ?_)
        refine ww_stH H4 (b := b2) (.there .here) rfl (by simp) rfl fun h6 H6 => ?_
        refine ww_ldNH H6 (b := b2) (off := 0) .here rfl (by omega) rfl ?_
        exact ww_ret ⟨rfl, H6.sub (.cons (.there .here) (.drop (.drop .refl)))⟩
    · rw [r2 he]
      with_reducible (refine ww_extract (by with_unfolding_all exact rfl) ?_; refine ww_extract (by with_unfolding_all exact rfl) ?_; refine ww_extract (by with_unfolding_all exact rfl) ?_; refine ww_notF ?_; refine ww_condT ?_; refine ww_build (by with_unfolding_all exact rfl) ?_)
      refine ww_stH H4 (b := b2) (.there .here) rfl (by simp) rfl fun h6 H6 => ?_
      refine ww_ldNH H6 (b := b2) (off := 0) .here rfl (by omega) rfl ?_
      refine ww_ret ⟨?_, H6.sub (.cons (.there .here) (.drop (.drop .refl)))⟩
      unfold takeItem
      rw [if_neg he]
      rfl

def rowP (l : List Int) : List (Int × Int) := l.map fun x => (0, x)
theorem lall_ok {n : Nat} (hn : 16 ≤ n) {v : Nat} {M : VM} {root : Int} {l : List Int} (H : HS g h (ViewC v M :: R)) (G : GoodV M) (hlv : M.lv = [([], [])]) (hr : 6 ≤ root ∧ root < 14) (h0 : (doR M (allA root)).1 = 0) (hl : (runA (allA root) ⟨lvV M.sz M.K [] [] 0, 0, 0⟩).1 = some l) (hll : l.length ≤ 1000) :
    wp (callT tab rtab n (.fn 44 [] []) [.ptr v 0, .int .i64 root] h) fun r h' => ∃ pv, r = .tup [pv, .int .i64 0] ∧ HS g h' (SliC 88 2 l.length pv ((rowP l).flatMap encPr) :: ViewC v (doR M (allA root)).2 :: R) := by
  (refine ww_fn (g := W44) rfl (by omega) fun k hk => ?_; show wp (S44 (callT tab rtab k) _ _ _) _; unfold S44; try simp only [Int.ofNat_eq_natCast])
  refine ww_call (qall_ok (by omega) H G hlv hr h0 hl) ?_
  rintro _ h1 ⟨ov, rfl, H1⟩
  with_reducible (refine ww_extract (by with_unfolding_all exact rfl) ?_; refine ww_extract (by with_unfolding_all exact rfl) ?_)
  refine ww_iter (fun m s h' => ∃ (i : Nat) (pv : AV), s = (.int .i64 (i : Int), pv, .int .i64 0, ov, ()) ∧ i ≤ l.length ∧ m = l.length - i ∧ HS g h' (SliC 88 2 i pv ((rowP (l.take i)).flatMap encPr) :: SliC 28 1 l.length ov (l.map (.int .u64)) :: ViewC v (doR M (allA root)).2 :: R))
    ?_ (m := l.length) (by show _ < 1000000000; omega) ⟨0, .nils, rfl, by omega, by omega, H1.nils⟩
  clear H1
  rintro m ih s h2 hih ⟨i, pv, rfl, hi, rfl, H2⟩
  dsimp only
  refine ww_lenH H2 (.there .here) ?_
  by_cases hlt : i < l.length
  · with_reducible (refine ww_lssT (by omega) ?_; refine ww_condT ?_)
    refine ww_idx1 (H2.sl (.there .here)) (x := .int .u64 l[i]) (by rw [List.getElem?_map, List.getElem?_eq_getElem hlt]; rfl) ?_
    have hnext : l.take (i + 1) = l.take i ++ [l[i]] := List.take_succ_eq_append_getElem hlt
    generalize l[i] = x at *
    refine ww_build (l := encPr (0, x)) rfl ?_
    refine ww_buildSH (n := 1) (l := encPr (0, x)) (sz := 2) H2 rfl rfl rfl rfl fun v5 h5 H5 => ?_
    refine ww_appH (H5.sel (.there .here)) (H5.sl .here) (by omega) (by omega) rfl fun v6 h6 H6 => ?_
    with_reducible (refine ww_addI (by omega) ?_)
    refine hih (l.length - (i + 1)) _ _ (by omega) ⟨i + 1, v6, rfl, by omega, rfl, ?_⟩
    rw [hnext]
    unfold rowP
    rw [List.map_append, List.flatMap_append]
    exact H6.sub (.cons .here (.drop .refl))
  · obtain rfl : i = l.length := by omega
    with_reducible (refine ww_lssF (by omega) ?_; refine ww_condF ?_; refine ww_leave ?_)
    rw [List.take_length] at H2
    exact ww_ret ⟨pv, rfl, H2.sub (.cons .here (.drop .refl))⟩

/-- what a settling comes to -/
theorem settle_ok {n : Nat} (hn : 14 ≤ n) {v : Nat} {M : VM} {zs Wr F : List Int} {cs : List Cl} {wv : AV} (H : HS g h (ViewC v M :: R)) (S : Rd g R 1 zs.length wv (zs.map (.int .u64))) (G : GoodV M) (hz : ∀ z ∈ applyZ zs cs, 0 ≤ z ∧ z < 18446744073709551616)
    (hm : mergeL M.lv = cs) (hc : cs.length < 1000) (hf : freesL M.lv = F) (hF : (F = [] ∧ Wr = applyZ zs cs) ∨ ∃ a c2, F = [a] ∧ giveA (wholeV (applyZ zs cs) 96) a = (0, oneV (applyZ zs cs) 96 c2 []) ∧ c2.length ≤ 2 ∧ Wr = applyZ (applyZ zs cs) c2) :
    wp (callT tab rtab n (.fn 43 [] []) [wv, .ptr v 0] h) fun r h' => ∃ wv' e, r = .tup [wv', .bool true] ∧ HS g h' (SliC e 1 Wr.length wv' (Wr.map (.int .u64)) :: R) := by
  (refine ww_fn (g := W43) rfl (by omega) fun k hk => ?_; show wp (S43 (callT tab rtab k) _ _ _) _; unfold S43; try simp only [Int.ofNat_eq_natCast])
  refine ww_call (vcells_ok (by omega) H G.ok) fun cv h1 H1 => ?_
  rw [hm] at H1
  refine ww_call (rapply_ok (zs := zs) (by omega) H1 S.more.more (H1.rd .here) (by omega)) ?_
  rintro w1 h2 ⟨e2, H2⟩
  refine ww_call (vfrees_ok (by omega) (H2.sel (.there (.there .here))) G.ok) fun fv h3 H3 => ?_
  rw [hf] at H3
  have H4 : HS g h3 (SliC e2 1 (applyZ zs cs).length w1 ((applyZ zs cs).map (.int .u64)) :: SliC 3 1 F.length fv (F.map (.int .i64)) :: R) := H3.sub (.cons (.there (.there .here)) (.cons .here (.drop (.drop .refl))))
  clear H H1 H2 H3
  generalize applyZ zs cs = W1 at *
  rcases hF with ⟨rfl, rfl⟩ | ⟨a, c2, rfl, hg, hc2, rfl⟩
  · refine ww_iter (fun m s h' => m = 0 ∧ s = (.int .i64 ((0 : Nat) : Int), fv, w1, ()) ∧ h' = h3) ?_ (m := 0) (by show 0 < 1000000000; omega) ⟨rfl, rfl, rfl⟩
    rintro m ih s h4 hih ⟨rfl, rfl, rfl⟩
    dsimp only
    refine ww_lenH H4 (.there .here) ?_
    show wp (pInt .lss _ (.int .i64 ((0 : Nat) : Int)) _) _
    with_reducible (refine ww_lssF (by omega) ?_; refine ww_condF ?_; refine ww_leave ?_)
    exact ww_ret ⟨w1, e2, rfl, H4.sub (.cons .here (.drop .refl))⟩
  · refine ww_iter (fun m s h' => (m = 1 ∧ s = (.int .i64 ((0 : Nat) : Int), fv, w1, ()) ∧ h' = h3) ∨ (m = 0 ∧ ∃ w2 e, s = (.int .i64 ((1 : Nat) : Int), fv, w2, ()) ∧
      HS g h' (SliC e 1 (applyZ W1 c2).length w2 ((applyZ W1 c2).map (.int .u64)) :: SliC 3 1 1 fv [.int .i64 a] :: R))) ?_ (m := 1) (by show 1 < 1000000000; omega) (.inl ⟨rfl, rfl, rfl⟩)
    rintro m ih s h4 hih (⟨rfl, rfl, rfl⟩ | ⟨rfl, w2, e, rfl, H5⟩)
    · dsimp only
      have H4 : HS g h4 (SliC e2 1 W1.length w1 (W1.map (.int .u64)) :: SliC 3 1 1 fv [.int .i64 a] :: R) := H4
      refine ww_lenH H4 (.there .here) ?_
      with_reducible (refine ww_lssT (by omega) ?_; refine ww_condT ?_)
      refine ww_call (vwhole_ok (zs := W1) (m := ((96 : Nat) : Int)) (by omega) H4 (H4.rd .here)) ?_
      rintro _ h5 ⟨u, rfl, H5⟩
      rw [show ((96 : Nat) : Int) = 96 from rfl] at H5
      have GW := whole_good (m := 96) hz
      refine ww_ptrN ?_
      with_reducible (refine ww_joinS ?_; (try dsimp only); refine ww_wantFF ?_; (try dsimp only))
      refine ww_idx1 (i := 0) (H5.sl (.there (.there .here))) (x := .int .i64 a) rfl ?_
      refine ww_call (agive_ok (by omega) H5 GW.ok) ?_
      rintro _ h6 ⟨rfl, H6⟩
      have G6 := (GW.give (b := a)).1
      rw [hg] at H6 G6 ⊢
      dsimp only at H6 G6 ⊢
      with_reducible (refine ww_neqF (by omega) ?_; refine ww_pickF ?_; refine ww_condF ?_)
      refine ww_call (vcells_ok (by omega) H6 G6.ok) fun cv h7 H7 => ?_
      rw [show mergeL (oneV W1 96 c2 []).lv = c2 from rfl] at H7
      refine ww_call (rapply_ok (zs := W1) (by omega) H7 (H7.rd (.there (.there .here))) (H7.rd .here) (by omega)) ?_
      rintro w3 h8 ⟨e8, H8⟩
      with_reducible (refine ww_addI (by omega) ?_)
      exact hih 0 _ _ (by omega) (.inr ⟨rfl, w3, e8, rfl, H8.sub (.cons .here (.cons (.there (.there (.there .here))) (.drop (.drop (.drop .refl)))))⟩)
    · dsimp only
      refine ww_lenH H5 (.there .here) ?_
      with_reducible (refine ww_lssF (by omega) ?_; refine ww_condF ?_; refine ww_leave ?_)
      exact ww_ret ⟨w2, e, rfl, H5.sub (.cons .here (.drop .refl))⟩
end Go.Proofs.Ythajhlachmgdoaa.arenaParts
