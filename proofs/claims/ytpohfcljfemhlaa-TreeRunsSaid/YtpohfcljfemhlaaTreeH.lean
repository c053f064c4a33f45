/- Trees: Deep and Range whole: the walks. -/
import Derived.Test.YtpohfcljfemhlaaTreeG
namespace Go.Proofs.Ytpohfcljfemhlaa.arenaParts
open Go Go.Ae arenaPlays
set_option maxRecDepth 100000

variable {g h : AH} {L R : List SP}

theorem ddo_bad {n : Nat} (hn : 1 ≤ n) {v root : AV} {x : Int} {clo : AV} (hr : x < 6) :
    wp (callT tab rtab n (.fn 13 [] []) [v, .int .i64 x, clo] h) fun r h' => r = .int .i64 2 ∧ h' = h := by
  (refine ww_fn (g := W13) rfl (by omega) fun k hk => ?_; show wp (S13 (callT tab rtab k) _ _ _ _) _; unfold S13; try simp only [Int.ofNat_eq_natCast])
  with_reducible (refine ww_lssT (by omega) ?_; refine ww_joinS ?_; (try dsimp only); refine ww_wantTF ?_; (try dsimp only); refine ww_pickT ?_; refine ww_condT ?_)
  exact ww_ret ⟨rfl, rfl⟩
theorem tdeep_bad {n : Nat} (hn : 3 ≤ n) {v : AV} {x : Int} (H : HS g h R) (hr : x < 6) :
    wp (callT tab rtab n (.fn 7 [] []) [v, .int .i64 x] h) fun r h' => r = .tup [.int .i64 0, .int .i64 2] ∧ HS g h' R := by
  (refine ww_fn (g := W7) rfl (by omega) fun k hk => ?_; show wp (S7 (callT tab rtab k) _ _ _) _; unfold S7; try simp only [Int.ofNat_eq_natCast])
  refine ww_box1 H ⟨rfl, rfl⟩ fun br h1 H1 => ?_
  refine ww_box1 H1 ⟨rfl, rfl⟩ fun bn h2 H2 => ?_
  refine ww_st1H H2 (b := bn) .here ⟨rfl, rfl⟩ (by simp) fun h3 H3 => ?_
  have H3 : HS g h3 (ObjC bn [.int .i64 0] :: ObjC br [.int .i64 x] :: R) := H3
  refine ww_ldH H3 (.there .here) rfl ?_
  refine ww_call (ddo_bad (root := .nils) (by omega) hr) ?_
  rintro _ h4 ⟨rfl, rfl⟩
  with_reducible (refine ww_neqT (by omega) ?_; refine ww_condT ?_)
  exact ww_ret ⟨rfl, H3.drop.drop⟩
theorem tdeep_ok {n : Nat} (hn : 2090 ≤ n) {v : Nat} {M : VM} {root x : Int} (H : HS g h (ViewC v M :: R)) (G : GoodV M) (hfr : frS M.lv ≤ 40000) (hr : 6 ≤ root ∧ root < 14) (h0 : (doG M (deepT root)).1 = 0) (hl : (runA (deepT root) ⟨ofV M, 0, 0⟩).1 = some x) :
    wp (callT tab rtab n (.fn 7 [] []) [.ptr v 0, .int .i64 root] h) fun r h' => r = .tup [.int .i64 x, .int .i64 0] ∧ (GoodV (doG M (deepT root)).2 ∧ frS (doG M (deepT root)).2.lv ≤ frS M.lv + 10) ∧ HS g h' (ViewC v (doG M (deepT root)).2 :: R) := by
  (refine ww_fn (g := W7) rfl (by omega) fun k hk => ?_; show wp (S7 (callT tab rtab k) _ _ _) _; unfold S7; try simp only [Int.ofNat_eq_natCast])
  refine ww_box1 H ⟨rfl, rfl⟩ fun br h1 H1 => ?_
  refine ww_box1 H1 ⟨rfl, rfl⟩ fun bn h2 H2 => ?_
  refine ww_st1H H2 (b := bn) .here ⟨rfl, rfl⟩ (by simp) fun h3 H3 => ?_
  have H3 : HS g h3 (ObjC bn [.int .i64 0] :: ObjC br [.int .i64 root] :: ViewC v M :: R) := H3
  refine ww_ldH H3 (.there .here) rfl ?_
  have GD := of_draft G
  refine ww_call (ddoG_ok (act := deepT root) (R1 := ObjC bn [.int .i64 0] :: ObjC br [.int .i64 root] :: R) (R2 := fun o => BoxN bn o :: ObjC br [.int .i64 root] :: R) (by omega) (H3.sub (.cons (.there (.there .here)) (.cons .here (.cons .here .refl)))) G hfr hr ?_) ?_
  · intro m h7 d hm3 H7
    exact wp.mono (tdeep1_ok (by omega) H7 GD rfl) fun v h4 hq => hq
  rintro _ h7 ⟨rfl, GG, H7⟩
  rw [h0, hl] at *
  refine ww_neqF rfl (ww_condF ?_)
  have H8 : HS g h7 (ObjC bn [.int .i64 x] :: ViewC v (doG M (deepT root)).2 :: ObjC br [.int .i64 root] :: R) := H7.sel (P := BoxN bn (some x)) (.there .here)
  refine ww_ldH H8 .here rfl ?_
  exact ww_ret ⟨rfl, GG, H8.sub (.cons (.there .here) (.drop (.drop .refl)))⟩

/-- pairs in their box -/
def BoxR (bo : Nat) (o : Option (List PairT)) : SP := match o with
  | some l => .ex fun ov : AV => .all [ObjC bo [ov], OutC ov l]
  | none => .ex fun ov : AV => ObjC bo [ov]
theorem trange1_ok {n : Nat} (hn : 2080 ≤ n) {d br bl bh bo : Nat} {P0 : SP} {D : DM} {root lo hi : Int} {sz : Nat} (H : HS g h (DrC d D :: P0 :: ObjC bo [.nils] :: ObjC bh [.int .u64 hi] :: ObjC bl [.int .u64 lo] :: ObjC br [.int .i64 root] :: R)) (G : GoodD D sz 5) (hs : D.stp = 0) :
    wp (callT tab rtab n (.fn 25 [] [.ptr br 0, .ptr bl 0, .ptr bh 0, .ptr bo 0]) [.ptr d 0] h) fun _ h2 => ∃ (o : Option (List PairT)) (D' : DM), EqR (runA (rangeA root lo hi) D) (o, D') ∧ GoodD D' sz 10 ∧ HS g h2 (DrC d D' :: P0 :: BoxR bo o :: ObjC bh [.int .u64 hi] :: ObjC bl [.int .u64 lo] :: ObjC br [.int .i64 root] :: R) := by
  refine ww_fc (g := W25) rfl (by omega) fun k hk => ?_
  show wp (S25 (callT tab rtab k) _ _ _ _ _ _) _
  unfold S25
  try simp only [Int.ofNat_eq_natCast]
  refine ww_ldH H (.there (.there (.there (.there (.there .here))))) rfl ?_
  refine ww_build (l := [.ptr d 0, .int .i64 root, .nils]) rfl ?_
  refine ww_boxA H rfl fun t h1 H1 => ?_
  have H1 : HS g h1 (DrC d D :: TrC t d root .nils :: P0 :: ObjC bo [.nils] :: ObjC bh [.int .u64 hi] :: ObjC bl [.int .u64 lo] :: ObjC br [.int .i64 root] :: R) := H1.sub (.cons (.there .here) (.cons .here .refl))
  refine ww_joinS ?_
  refine ww_call (top_ok (α := List PairT) (by omega) H1 G) ?_
  rintro _ h2 ⟨a, D2, rfl, E2, A2, b2, H2⟩
  have hs2 := A2.stp
  refine ww_ldH H2 (.there (.there (.there (.there (.there .here))))) rfl (ww_ldH H2 (.there (.there (.there (.there .here)))) rfl ?_)
  have H3 := (H2.nils (e := 38) (sz := 2)).sub (L' := DrC d D2 :: TrC t d root .nils :: OutC .nils [] :: P0 :: ObjC bo [.nils] :: ObjC bh [.int .u64 hi] :: ObjC bl [.int .u64 lo] :: ObjC br [.int .i64 root] :: R) (.cons (.there .here) (.cons (.there .here) (.cons .here .refl)))
  refine ww_call (between_ok (α := List PairT) (m := 2049) (by omega) H3 A2.good b2.1 ⟨b2.2.1, fun _ => by omega, by omega, fun _ => by omega, by omega⟩ (by simp; omega)) ?_
  rintro ov h4 ⟨l, D4, E4, G4, Q4, l4, H4⟩
  have E5 : EqR (runA (rangeA root lo hi) D) (runA (.ret l) D4) := (E2 _).trans (E4 _)
  rw [run_ret] at E5
  have o4 := H4.one (e := 38) (sz := 2) (n := l.length) (xs := l.flatMap encP) (.there (.there .here))
  refine ww_st1H H4 (b := bo) (.there (.there (.there (.there .here)))) o4 (by simp) fun h5 H5 => ?_
  refine ww_chkH H1 (b := bh) (.there (.there (.there (.there .here)))) rfl H2 (.there (.there (.there (.there .here)))) rfl (HS.lt H1 (.there (.there (.there (.there .here))))) ?_
  refine ww_chkH H1 (b := bl) (.there (.there (.there (.there (.there .here))))) rfl H2 (.there (.there (.there (.there (.there .here))))) rfl (HS.lt H1 (.there (.there (.there (.there (.there .here)))))) ?_
  have H5 : HS g h5 (ObjC bo [ov] :: DrC d D4 :: TrC t d root .nils :: OutC ov l :: P0 :: ObjC bh [.int .u64 hi] :: ObjC bl [.int .u64 lo] :: ObjC br [.int .i64 root] :: R) := H5
  refine ww_ret ⟨_, D4, E5, good_ten G4, ?_⟩
  by_cases he : D4.err = 0
  · rw [if_pos he]
    have H6 : HS g h5 (BoxR bo (some l) :: DrC d D4 :: P0 :: ObjC bh [.int .u64 hi] :: ObjC bl [.int .u64 lo] :: ObjC br [.int .i64 root] :: R) := HS.exI ov (HS.allI (A := [ObjC bo [ov], OutC ov l]) (H5.sub (L' := ObjC bo [ov] :: OutC ov l :: DrC d D4 :: P0 :: ObjC bh [.int .u64 hi] :: ObjC bl [.int .u64 lo] :: ObjC br [.int .i64 root] :: R) (.cons .here (.cons (.there (.there .here)) (.cons .here (.drop .refl))))))
    exact H6.sub (.cons (.there .here) (.cons (.there .here) (.cons .here .refl)))
  · rw [if_neg he]
    have H6 : HS g h5 (BoxR bo none :: DrC d D4 :: P0 :: ObjC bh [.int .u64 hi] :: ObjC bl [.int .u64 lo] :: ObjC br [.int .i64 root] :: R) := HS.exI ov (H5.sub (L' := ObjC bo [ov] :: DrC d D4 :: P0 :: ObjC bh [.int .u64 hi] :: ObjC bl [.int .u64 lo] :: ObjC br [.int .i64 root] :: R) (.cons .here (.cons .here (.drop (.drop .refl)))))
    exact H6.sub (.cons (.there .here) (.cons (.there .here) (.cons .here .refl)))
theorem trange_ok {n : Nat} (hn : 2090 ≤ n) {v : Nat} {M : VM} {root lo hi : Int} {l : List PairT} (H : HS g h (ViewC v M :: R)) (G : GoodV M) (hfr : frS M.lv ≤ 40000) (hr : 6 ≤ root ∧ root < 14) (h0 : (doG M (rangeA root lo hi)).1 = 0) (hl : (runA (rangeA root lo hi) ⟨ofV M, 0, 0⟩).1 = some l) :
    wp (callT tab rtab n (.fn 8 [] []) [.ptr v 0, .int .i64 root, .int .u64 lo, .int .u64 hi] h) fun r h' => ∃ ov, r = .tup [ov, .int .i64 0] ∧ (GoodV (doG M (rangeA root lo hi)).2 ∧ frS (doG M (rangeA root lo hi)).2.lv ≤ frS M.lv + 10) ∧ HS g h' (OutC ov l :: ViewC v (doG M (rangeA root lo hi)).2 :: R) := by
  (refine ww_fn (g := W8) rfl (by omega) fun k hk => ?_; show wp (S8 (callT tab rtab k) _ _ _ _ _) _; unfold S8; try simp only [Int.ofNat_eq_natCast])
  refine ww_box1 H ⟨rfl, rfl⟩ fun br h1 H1 => ?_
  refine ww_box1 H1 ⟨rfl, rfl⟩ fun bl h2 H2 => ?_
  refine ww_box1 H2 ⟨rfl, rfl⟩ fun bh h3 H3 => ?_
  refine ww_box1 H3 ⟨rfl, rfl⟩ fun bo h4 H4 => ?_
  refine ww_ldH H4 (.there (.there (.there .here))) rfl ?_
  have GD := of_draft G
  refine ww_call (ddoG_ok (act := rangeA root lo hi) (R1 := ObjC bo [.nils] :: ObjC bh [.int .u64 hi] :: ObjC bl [.int .u64 lo] :: ObjC br [.int .i64 root] :: R) (R2 := fun o => BoxR bo o :: ObjC bh [.int .u64 hi] :: ObjC bl [.int .u64 lo] :: ObjC br [.int .i64 root] :: R) (by omega) (H4.sub (.cons (.there (.there (.there (.there .here)))) (.cons .here (.cons .here (.cons .here (.cons .here .refl)))))) G hfr hr ?_) ?_
  · intro m h7 d hm3 H7
    exact wp.mono (trange1_ok (by omega) H7 GD rfl) fun v h4 hq => hq
  rintro _ h7 ⟨rfl, GG, H7⟩
  rw [h0, hl] at *
  with_reducible (refine ww_neqF (by omega) ?_; refine ww_condF ?_)
  obtain ⟨ov, H8⟩ := HS.exE (H7.sel (P := BoxR bo (some l)) (.there .here))
  have H8 : HS g h7 (ObjC bo [ov] :: OutC ov l :: ViewC v (doG M (rangeA root lo hi)).2 :: ObjC bh [.int .u64 hi] :: ObjC bl [.int .u64 lo] :: ObjC br [.int .i64 root] :: R) := HS.allE H8
  refine ww_ldH H8 .here rfl ?_
  exact ww_ret ⟨ov, rfl, GG, H8.sub (.cons (.there .here) (.cons (.there .here) (.drop (.drop (.drop (.drop .refl))))))⟩
end Go.Proofs.Ytpohfcljfemhlaa.arenaParts
