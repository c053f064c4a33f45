/- Blocks given back: by the program, by the document's own text. -/
import Derived.Test.YtjpfndpcmoklfaaGreatDoorMApplyV
namespace Go.Proofs.YtjpfndpcmoklfaaGreatDoor
open Go Go.Ae arenaPlays
set_option maxRecDepth 100000

variable {g h : AH} {L R : List SP}

/-- a slice's own shape -/
def Shp (v : AV) : Prop := v = .nils ∨ ∃ b o n cp x, v = .slice b o n cp x
theorem shp {e : TypeId} {sz n : Nat} {v : AV} {xs : List AV} (H : HS g h L) (s : Sel L (SliC e sz n v xs) R) : Shp v := by
  obtain ⟨D, h1, ⟨rfl, rfl, _⟩ | ⟨b, cp, o, ys, rfl, _⟩⟩ := H.p s
  · exact .inl rfl
  · exact .inr ⟨_, _, _, _, _, rfl⟩
abbrev zero6 : List AV := [.int .i64 ((0 : Nat) : Int), .int .i64 ((0 : Nat) : Int), .str [], .nils, .nils, .nils]
theorem fill_err {er k : Int} {wv : AV} (h : Shp wv) : afill zero6 [(0, 1, .int .i64 k), (1, 1, .int .i64 er), (5, 1, wv)] = some [.int .i64 k, .int .i64 er, .str [], .nils, .nils, wv] := by
  rcases h with rfl | ⟨b, o, n, cp, x, rfl⟩ <;> rfl
theorem fill_ok {k : Int} {cv wv : AV} (h1 : Shp cv) (h2 : Shp wv) : afill zero6 [(0, 1, .int .i64 k), (3, 1, cv), (5, 1, wv)] = some [.int .i64 k, .int .i64 ((0 : Nat) : Int), .str [], cv, .nils, wv] := by
  rcases h1 with rfl | ⟨b, o, n, cp, x, rfl⟩ <;> rcases h2 with rfl | ⟨b, o, n, cp, x, rfl⟩ <;> rfl
theorem all6 {er k : Int} {cv wv : AV} (h1 : Shp cv) (h2 : Shp wv) : allOne [.int .i64 k, .int .i64 er, .str [], cv, .nils, wv] = true := by
  rcases h1 with rfl | ⟨b, o, n, cp, x, rfl⟩ <;> rcases h2 with rfl | ⟨b, o, n, cp, x, rfl⟩ <;> rfl

/-- one after the other, till one is refused -/
def givesM : VM → List Int → Int × VM
  | M, [] => (0, M)
  | M, b :: bs => if (giveA M b).1 = 0 then givesM (giveA M b).2 bs else ((giveA M b).1, (giveA M b).2)
/-- what comes out -/
def outCs (q : Int × VM) : List Cl := if q.1 = 0 then mergeL q.2.lv else []
def outWs (zs : List Int) (q : Int × VM) : List Int := applyZ zs (outCs q)
def outA (q : Int × VM) (cv wv : AV) : AV := .agg [.int .i64 (if q.1 = 0 then 2 else 4), .int .i64 q.1, .str [], cv, .nils, wv]
def OutR (g : AH) (R : List SP) (zs : List Int) (q : Int × VM) (r : AV) (h' : AH) : Prop :=
  ∃ cv wv e1 e2, r = outA q cv wv ∧ HS g h' (SliC e1 2 (outCs q).length cv ((outCs q).flatMap encC) :: SliC e2 1 (outWs zs q).length wv ((outWs zs q).map (.int .u64)) :: R)

theorem mgive_ok {n : Nat} (hn : 14 ≤ n) {zs bs : List Int} {a0 a1 : AV} {m : Int} (H : HS g h R) (S : Rd g R 1 zs.length a0 (zs.map (.int .u64))) (hs : shut a0 = true) (hr : roomy a0) (S1 : Rd g R 1 bs.length a1 (bs.map (.int .i64)))
    (hz : ∀ z ∈ zs, 0 ≤ z ∧ z < 18446744073709551616) (hl : zs.length < 100000) (hb : bs.length < 100000) :
    wp (callT tab rtab n (.fn 7 [] []) [a0, a1, .int .i64 m] h) (OutR g R zs (givesM (wholeV zs m) bs)) := by
  (refine ww_fn (g := W7) rfl (by omega) fun k hk => ?_; show wp (S7 (callT tab rtab k) _ _ _ _) _; unfold S7; try simp only [Int.ofNat_eq_natCast])
  refine ww_boxA H rfl fun b h1 H => ?_
  refine ww_call (vwhole_ok (by omega) H S.more) ?_
  rintro _ h2 ⟨v, rfl, H⟩
  have G0 := whole_good (m := m) hz
  have F0 : frS (wholeV zs m).lv = 0 := rfl
  refine ww_len (S1.sl H.drop.drop) ?_
  refine ww_iter (fun c s h' => ∃ (i : Nat) (M : VM), s = (.int .i64 (i : Int), .int .i64 (bs.length : Int), a1, .ptr v 0, .ptr b 0, a0, ()) ∧ i ≤ bs.length ∧ c = bs.length - i ∧ GoodV M ∧ frS M.lv = 0 ∧ givesM (wholeV zs m) bs = givesM M (bs.drop i) ∧
    HS g h' (ViewC v M :: ObjC b [.int .i64 ((0 : Nat) : Int), .int .i64 ((0 : Nat) : Int), .str [], .nils, .nils, .nils] :: R)) ?_ (m := bs.length) (by show _ < 1000000000; omega) ⟨0, _, rfl, by omega, by omega, G0, F0, rfl, H⟩
  clear H G0 F0
  rintro c ih s h3 hih ⟨i, M, rfl, h1, rfl, G, hf, hM, H⟩
  dsimp only
  rw [hM]
  refine ww_lssC (fun hlt => ww_condT ?_) fun hge => ww_condF ?_
  · have hi : i < bs.length := by omega
    refine ww_idx1 (x := .int .i64 bs[i]) (S1.sl H.drop.drop) (by rw [List.getElem?_map, List.getElem?_eq_getElem hi]; rfl) ?_
    refine ww_call (agive_ok (by omega) H G.ok) ?_
    rintro _ h4 ⟨rfl, H⟩
    have G2 := G.give (b := bs[i])
    rw [List.drop_eq_getElem_cons hi]
    by_cases e0 : (giveA M bs[i]).1 = 0
    · have hg : givesM M (bs[i] :: bs.drop (i + 1)) = givesM (giveA M bs[i]).2 (bs.drop (i + 1)) := if_pos e0
      rw [e0]
      with_reducible (refine ww_neqF (by omega) ?_; refine ww_condF ?_; refine ww_addI (by omega) ?_)
      rw [List.drop_eq_getElem_cons hi, hg] at hM
      rw [hg, ← hM]
      exact hih (bs.length - (i + 1)) _ _ (by omega) ⟨i + 1, _, rfl, by omega, rfl, G2.1, by rw [G2.2]; exact hf, hM, H⟩
    · have hg : givesM M (bs[i] :: bs.drop (i + 1)) = ((giveA M bs[i]).1, (giveA M bs[i]).2) := if_neg e0
      rw [hg]
      generalize (giveA M bs[i]).1 = er at *
      generalize (giveA M bs[i]).2 = M2 at *
      refine ww_neqT (by omega) (ww_condT ?_)
      refine ww_call (mapplyV_ok (cs := []) (by omega) H S.more.more hs hr (fun _ _ => .nils) hl (by simp)) ?_
      rintro wv h5 ⟨e, H5⟩
      have w1 := shp H5 .here
      refine ww_build (fill_err w1) ?_
      refine ww_stH H5 (b := b) (.there (.there .here)) rfl (by show 0 + 6 ≤ 6; omega) (all6 (.inl rfl) w1) fun h6 H6 => ?_
      have H6 : HS g h6 (ObjC b [.int .i64 ((4 : Nat) : Int), .int .i64 er, .str [], .nils, .nils, wv] :: SliC e 1 (applyZ zs []).length wv ((applyZ zs []).map (.int .u64)) :: ViewC v M2 :: R) := H6
      with_reducible (refine ww_leave ?_)
      refine ww_ldNH H6 (b := b) (l := [.int .i64 ((4 : Nat) : Int), .int .i64 er, .str [], .nils, .nils, wv]) .here rfl (by omega) rfl (ww_ret ?_)
      refine ⟨.nils, wv, 0, e, ?_, ?_⟩
      · unfold outA; rw [if_neg e0]; rfl
      · have hc : outCs (er, M2) = [] := if_neg e0
        unfold outWs
        rw [hc]
        exact ((H6.drop).sub (L' := SliC e 1 (applyZ zs []).length wv ((applyZ zs []).map (.int .u64)) :: R) (.cons .here (.drop (.refl)))).nils
  · have hd : bs.drop i = [] := List.drop_of_length_le (by omega)
    rw [hd]
    show wp _ (OutR g R zs (0, M))
    refine ww_call (vcells_ok (by omega) H G.ok) fun c1 h4 H4 => ?_
    refine ww_call (vcells_ok (by omega) (H4.sel (.there .here)) G.ok) fun c2 h5 H5 => ?_
    have hml : (mergeL M.lv).length < 100000 := by
      have h1 := mergeL_len M.lv []
      have h2 := G.ok.lvs.held
      have h3 := G.ok.lvs.le
      have h4 : (mergeL M.lv).length ≤ ([] : List Cl).length + heldL M.lv := h1
      simp at h4
      omega
    refine ww_call (mapplyV_ok (by omega) H5 S.more.more.more.more hs hr (H5.rd .here) hl hml) ?_
    rintro wv h6 ⟨e, H6⟩
    have w1 := shp H6 .here
    have w2 := shp H6 (.there (.there (.there .here)))
    refine ww_build (fill_ok w2 w1) ?_
    refine ww_stH H6 (b := b) (.there (.there (.there (.there .here)))) rfl (by show 0 + 6 ≤ 6; omega) (all6 w2 w1) fun h7 H7 => ?_
    have H7 : HS g h7 (ObjC b [.int .i64 ((2 : Nat) : Int), .int .i64 ((0 : Nat) : Int), .str [], c1, .nils, wv] :: SliC e 1 (applyZ zs (mergeL M.lv)).length wv ((applyZ zs (mergeL M.lv)).map (.int .u64)) :: SliC 47 2 (mergeL M.lv).length c2 ((mergeL M.lv).flatMap encC) ::
      ViewC v M :: SliC 47 2 (mergeL M.lv).length c1 ((mergeL M.lv).flatMap encC) :: R) := H7
    with_reducible (refine ww_leave ?_)
    refine ww_ldNH H7 (b := b) (l := [.int .i64 ((2 : Nat) : Int), .int .i64 ((0 : Nat) : Int), .str [], c1, .nils, wv]) .here rfl (by omega) rfl (ww_ret ?_)
    refine ⟨c1, wv, 47, e, rfl, ?_⟩
    have hc : outCs ((0 : Int), M) = mergeL M.lv := if_pos rfl
    unfold outWs
    rw [hc]
    exact H7.sub (.cons (.there (.there (.there (.there .here)))) (.cons (.there .here) (.drop (.drop (.drop (.refl))))))

theorem rgives_ok {n : Nat} (hn : 9 ≤ n) {zs bs : List Int} {a0 a1 : AV} {m : Int} (H : HS g h R) (S : Rd g R 1 zs.length a0 (zs.map (.int .u64))) (S1 : Rd g R 1 bs.length a1 (bs.map (.int .i64)))
    (hz : ∀ z ∈ zs, 0 ≤ z ∧ z < 18446744073709551616) (hb : bs.length < 100000) :
    wp (callT tab rtab n (.fn 8 [] []) [a0, a1, .int .i64 m] h) (OutR g R zs (givesM (wholeV zs m) bs)) := by
  (refine ww_fn (g := W8) rfl (by omega) fun k hk => ?_; show wp (S8 (callT tab rtab k) _ _ _ _) _; unfold S8; try simp only [Int.ofNat_eq_natCast])
  refine ww_boxA H rfl fun b h1 H => ?_
  refine ww_call (rvwhole_ok (by omega) H S.more) ?_
  rintro _ h2 ⟨v, rfl, H⟩
  have G0 := whole_good (m := m) hz
  have F0 : frS (wholeV zs m).lv = 0 := rfl
  refine ww_iter (fun c s h' => ∃ (i : Nat) (M : VM), s = (.int .i64 (i : Int), .ptr v 0, .ptr b 0, a1, a0, ()) ∧ i ≤ bs.length ∧ c = bs.length - i ∧ GoodV M ∧ frS M.lv = 0 ∧ givesM (wholeV zs m) bs = givesM M (bs.drop i) ∧
    HS g h' (RvC v M :: ObjC b [.int .i64 ((0 : Nat) : Int), .int .i64 ((0 : Nat) : Int), .str [], .nils, .nils, .nils] :: R)) ?_ (m := bs.length) (by show _ < 1000000000; omega) ⟨0, _, rfl, by omega, by omega, G0, F0, rfl, H⟩
  clear H G0 F0
  rintro c ih s h3 hih ⟨i, M, rfl, h1, rfl, G, hf, hM, H⟩
  dsimp only
  rw [hM]
  refine ww_len (S1.sl H.drop.drop) ?_
  refine ww_lssC (fun hlt => ww_condT ?_) fun hge => ww_condF ?_
  · have hi : i < bs.length := by omega
    refine ww_idx1 (x := .int .i64 bs[i]) (S1.sl H.drop.drop) (by rw [List.getElem?_map, List.getElem?_eq_getElem hi]; rfl) ?_
    refine ww_call (rgive_ok (by omega) H G.ok G.wd) ?_
    rintro _ h4 ⟨rfl, H⟩
    have G2 := G.give (b := bs[i])
    rw [List.drop_eq_getElem_cons hi]
    by_cases e0 : (giveA M bs[i]).1 = 0
    · have hg : givesM M (bs[i] :: bs.drop (i + 1)) = givesM (giveA M bs[i]).2 (bs.drop (i + 1)) := if_pos e0
      rw [e0]
      with_reducible (refine ww_neqF (by omega) ?_; refine ww_condF ?_; refine ww_addI (by omega) ?_)
      rw [List.drop_eq_getElem_cons hi, hg] at hM
      rw [hg, ← hM]
      exact hih (bs.length - (i + 1)) _ _ (by omega) ⟨i + 1, _, rfl, by omega, rfl, G2.1, by rw [G2.2]; exact hf, hM, H⟩
    · have hg : givesM M (bs[i] :: bs.drop (i + 1)) = ((giveA M bs[i]).1, (giveA M bs[i]).2) := if_neg e0
      rw [hg]
      generalize (giveA M bs[i]).1 = er at *
      generalize (giveA M bs[i]).2 = M2 at *
      refine ww_neqT (by omega) (ww_condT ?_)
      refine ww_call (rapply_ok (cs := []) (by omega) H S.more.more (fun _ _ => .nils) (by simp)) ?_
      rintro wv h5 ⟨e, H5⟩
      have w1 := shp H5 .here
      refine ww_build (fill_err w1) ?_
      refine ww_stH H5 (b := b) (.there (.there .here)) rfl (by show 0 + 6 ≤ 6; omega) (all6 (.inl rfl) w1) fun h6 H6 => ?_
      have H6 : HS g h6 (ObjC b [.int .i64 ((4 : Nat) : Int), .int .i64 er, .str [], .nils, .nils, wv] :: SliC e 1 (applyZ zs []).length wv ((applyZ zs []).map (.int .u64)) :: RvC v M2 :: R) := H6
      with_reducible (refine ww_leave ?_)
      refine ww_ldNH H6 (b := b) (l := [.int .i64 ((4 : Nat) : Int), .int .i64 er, .str [], .nils, .nils, wv]) .here rfl (by omega) rfl (ww_ret ?_)
      refine ⟨.nils, wv, 0, e, ?_, ?_⟩
      · unfold outA; rw [if_neg e0]; rfl
      · have hc : outCs (er, M2) = [] := if_neg e0
        unfold outWs
        rw [hc]
        exact ((H6.drop).sub (L' := SliC e 1 (applyZ zs []).length wv ((applyZ zs []).map (.int .u64)) :: R) (.cons .here (.drop (.refl)))).nils
  · have hd : bs.drop i = [] := List.drop_of_length_le (by omega)
    rw [hd]
    show wp _ (OutR g R zs (0, M))
    obtain ⟨kv, q, H⟩ := RvC.E H
    with_reducible (refine ww_nil ?_; refine ww_field0 ?_; refine ww_ldH (by assumption) .here (by with_unfolding_all exact rfl) ?_)
    refine ww_call (rlwhole_ok (by omega) (H.sel (.there (.there .here))) G.ok.lvs (by omega)) ?_
    rintro _ h5 ⟨c1, fv, rfl, H5⟩
    have hml : (mergeL M.lv).length < 100000 := by
      have h1 := mergeL_len M.lv []
      have h2 := G.ok.lvs.held
      have h3 := G.ok.lvs.le
      have h4 : (mergeL M.lv).length ≤ ([] : List Cl).length + heldL M.lv := h1
      simp at h4
      omega
    refine ww_part1 rfl ?_
    refine ww_call (rapply_ok (by omega) H5 S.more.more.more.more.more.more (H5.rd .here) hml) ?_
    rintro wv h6 ⟨e, H6⟩
    have w1 := shp H6 .here
    have w2 := shp H6 (.there .here)
    refine ww_build (fill_ok w2 w1) ?_
    refine ww_stH H6 (b := b) (.there (.there (.there (.there (.there (.there .here)))))) rfl (by show 0 + 6 ≤ 6; omega) (all6 w2 w1) fun h7 H7 => ?_
    have H7 := H7.sub (L' := ObjC b [.int .i64 ((2 : Nat) : Int), .int .i64 ((0 : Nat) : Int), .str [], c1, .nils, wv] :: SliC 47 2 (mergeL M.lv).length c1 ((mergeL M.lv).flatMap encC) :: SliC e 1 (applyZ zs (mergeL M.lv)).length wv ((applyZ zs (mergeL M.lv)).map (.int .u64)) :: R) (.cons .here (.cons (.there .here) (.cons .here (.drop (.drop (.drop (.drop (.refl))))))))
    with_reducible (refine ww_leave ?_)
    refine ww_ldNH H7 (b := b) (l := [.int .i64 ((2 : Nat) : Int), .int .i64 ((0 : Nat) : Int), .str [], c1, .nils, wv]) .here rfl (by omega) rfl (ww_ret ?_)
    refine ⟨c1, wv, 47, e, rfl, ?_⟩
    have hc : outCs ((0 : Int), M) = mergeL M.lv := if_pos rfl
    unfold outWs
    rw [hc]
    exact H7.drop
end Go.Proofs.YtjpfndpcmoklfaaGreatDoor
