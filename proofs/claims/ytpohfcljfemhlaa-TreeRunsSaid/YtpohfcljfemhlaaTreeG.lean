/- Trees: Get, Range, Deep: the walks. -/
import Derived.Test.YtpohfcljfemhlaaTreeP
namespace Go.Proofs.Ytpohfcljfemhlaa.arenaParts
open Go Go.Ae arenaPlays
set_option maxRecDepth 100000

variable {g h : AH} {L R : List SP}

/-- what was found, in its boxes -/
def BoxG (bx bt : Nat) (o : Option (Int × Bool)) : SP := match o with
  | some (x, t) => .all [ObjC bt [.bool t], ObjC bx [.int .u64 x]]
  | none => .ex fun x : Int => .ex fun t : Bool => .all [ObjC bt [.bool t], ObjC bx [.int .u64 x]]
theorem BoxG.I {bx bt : Nat} {x : Int} {t : Bool} {o : Option (Int × Bool)} (ho : o = none ∨ o = some (x, t)) (H : HS g h (ObjC bt [.bool t] :: ObjC bx [.int .u64 x] :: R)) : HS g h (BoxG bx bt o :: R) := by
  rcases ho with rfl | rfl
  · exact HS.exI x (HS.exI t (HS.allI H))
  · exact HS.allI H
theorem tget1_ok {n : Nat} (hn : 20 ≤ n) {d br bk bx bt : Nat} {P0 : SP} {D : DM} {root key : Int} {sz : Nat} (H : HS g h (DrC d D :: P0 :: ObjC bt [.bool false] :: ObjC bx [.int .u64 0] :: ObjC bk [.int .u64 key] :: ObjC br [.int .i64 root] :: R)) (G : GoodD D sz 5) (hs : D.stp = 0) :
    wp (callT tab rtab n (.fn 27 [] [.ptr br 0, .ptr bk 0, .ptr bx 0, .ptr bt 0]) [.ptr d 0] h) fun _ h2 => ∃ (o : Option (Int × Bool)) (D' : DM), EqR (runA (getA root key) D) (o, D') ∧ GoodD D' sz 10 ∧ HS g h2 (DrC d D' :: P0 :: BoxG bx bt o :: ObjC bk [.int .u64 key] :: ObjC br [.int .i64 root] :: R) := by
  refine ww_fc (g := W27) rfl (by omega) fun k hk => ?_
  show wp (S27 (callT tab rtab k) _ _ _ _ _ _) _
  unfold S27
  try simp only [Int.ofNat_eq_natCast]
  refine ww_ldH H (.there (.there (.there (.there (.there .here))))) rfl ?_
  refine ww_build (l := [.ptr d 0, .int .i64 root, .nils]) rfl ?_
  refine ww_boxA H rfl fun t h1 H1 => ?_
  have H1 : HS g h1 (DrC d D :: TrC t d root .nils :: P0 :: ObjC bt [.bool false] :: ObjC bx [.int .u64 0] :: ObjC bk [.int .u64 key] :: ObjC br [.int .i64 root] :: R) := H1.sub (.cons (.there .here) (.cons .here .refl))
  refine ww_ldH H1 (.there (.there (.there (.there (.there .here))))) rfl ?_
  refine ww_call (seek_ok (α := Int × Bool) (by omega) H1 G hs) ?_
  rintro _ h2 ⟨a, way, wv, D2, rfl, E2, G2, st2, ba, O, hwl, H2⟩
  have E2 : EqR (runA (getA root key) D) (runA (if a ≠ 0 then .read (a + 1) fun x => .ret (x, true) else .ret (0, false)) D2) := E2 _
  have fin : ∀ {x : Int} {b : Bool} {o : Option (Int × Bool)} {D' : DM} {h' : AH} {wv' : AV} {way' : List StpT}, EqR (runA (getA root key) D) (o, D') → (o = none ∨ o = some (x, b)) → GoodD D' sz 5 → HS g h' (DrC d D' :: TrC t d root wv' :: WayC wv' way' :: P0 :: ObjC bt [.bool b] :: ObjC bx [.int .u64 x] :: ObjC bk [.int .u64 key] :: ObjC br [.int .i64 root] :: R) →
      ∃ (o : Option (Int × Bool)) (D' : DM), EqR (runA (getA root key) D) (o, D') ∧ GoodD D' sz 10 ∧ HS g h' (DrC d D' :: P0 :: BoxG bx bt o :: ObjC bk [.int .u64 key] :: ObjC br [.int .i64 root] :: R) := by
    intro x b o D' h' wv' way' E ho G H
    refine ⟨o, D', E, good_ten G, ?_⟩
    exact (BoxG.I ho (H.sub (L' := ObjC bt [.bool b] :: ObjC bx [.int .u64 x] :: DrC d D' :: P0 :: ObjC bk [.int .u64 key] :: ObjC br [.int .i64 root] :: R) (.cons (.there (.there (.there (.there .here)))) (.cons (.there (.there (.there (.there .here)))) (.cons .here (.drop (.drop (.cons .here .refl)))))))).sub (.cons (.there .here) (.cons (.there .here) (.cons .here .refl)))
  clear H H1
  by_cases ha : a = 0
  · rw [if_neg (by omega), run_ret] at E2
    refine ww_neqF ha (ww_condF ?_)
    exact ww_ret (fin E2 if_or G2 H2)
  rw [if_pos ha] at E2
  refine ww_neqT ha (ww_condT ?_)
  refine ww_addI (by omega) ?_
  rw [show a + ((1 : Nat) : Int) = a + 1 from rfl]
  refine ww_call (dread_ok (by omega) H2 G2.g.ok) ?_
  rintro _ h3 ⟨rfl, H3⟩
  have G3 := G2.read (p := a + 1)
  have E3 := E2.trans run_read
  generalize readD D2 (a + 1) = q3 at *
  obtain ⟨x, D3⟩ := q3
  obtain ⟨G3, _, _⟩ := G3
  dsimp only at *
  rw [run_ret] at E3
  refine ww_st1H H3 (b := bx) (.there (.there (.there (.there (.there .here))))) ⟨rfl, rfl⟩ (by simp) fun h4 H4 => ?_
  refine ww_st1H H4 (b := bt) (.there (.there (.there (.there (.there .here))))) ⟨rfl, rfl⟩ (by simp) fun h5 H5 => ?_
  have H5 : HS g h5 (ObjC bt [.bool true] :: ObjC bx [.int .u64 x] :: DrC d D3 :: TrC t d root wv :: WayC wv way :: P0 :: ObjC bk [.int .u64 key] :: ObjC br [.int .i64 root] :: R) := H5
  exact ww_ret (fin (x := x) (b := true) E3 if_or G3 (H5.sub (.cons (.there (.there .here)) (.cons (.there (.there .here)) (.cons (.there (.there .here)) (.cons (.there (.there .here)) (.cons .here (.cons .here .refl))))))))
theorem tget_ok {n : Nat} (hn : 23 ≤ n) {v : Nat} {M : VM} {root key : Int} (H : HS g h (ViewC v M :: R)) (G : GoodV M) (hfr : frS M.lv ≤ 40000) (hr : 6 ≤ root ∧ root < 14) {x : Int} {b : Bool} (h0 : (doG M (getA root key)).1 = 0) (hl : (runA (getA root key) ⟨ofV M, 0, 0⟩).1 = some (x, b)) :
    wp (callT tab rtab n (.fn 9 [] []) [.ptr v 0, .int .i64 root, .int .u64 key] h) fun r h' => r = .tup [.int .u64 x, .bool b, .int .i64 0] ∧ (GoodV (doG M (getA root key)).2 ∧ frS (doG M (getA root key)).2.lv ≤ frS M.lv + 10) ∧ HS g h' (ViewC v (doG M (getA root key)).2 :: R) := by
  (refine ww_fn (g := W9) rfl (by omega) fun k hk => ?_; show wp (S9 (callT tab rtab k) _ _ _ _) _; unfold S9; try simp only [Int.ofNat_eq_natCast])
  refine ww_box1 H ⟨rfl, rfl⟩ fun br h1 H1 => ?_
  refine ww_box1 H1 ⟨rfl, rfl⟩ fun bk h2 H2 => ?_
  refine ww_box1 H2 ⟨rfl, rfl⟩ fun bx h3 H3 => ?_
  refine ww_box1 H3 ⟨rfl, rfl⟩ fun bt h4 H4 => ?_
  refine ww_st1H H4 (b := bx) (.there .here) ⟨rfl, rfl⟩ (by simp) fun h5 H5 => ?_
  refine ww_st1H H5 (b := bt) (.there .here) ⟨rfl, rfl⟩ (by simp) fun h6 H6 => ?_
  have H6 : HS g h6 (ObjC bt [.bool false] :: ObjC bx [.int .u64 0] :: ObjC bk [.int .u64 key] :: ObjC br [.int .i64 root] :: ViewC v M :: R) := H6
  refine ww_ldH H6 (.there (.there (.there .here))) rfl ?_
  have GD := of_draft G
  refine ww_call (ddoG_ok (act := getA root key) (R1 := ObjC bt [.bool false] :: ObjC bx [.int .u64 0] :: ObjC bk [.int .u64 key] :: ObjC br [.int .i64 root] :: R) (R2 := fun o => BoxG bx bt o :: ObjC bk [.int .u64 key] :: ObjC br [.int .i64 root] :: R) (by omega) (H6.sub (.cons (.there (.there (.there (.there .here)))) (.cons .here (.cons .here (.cons .here (.cons .here .refl)))))) G hfr hr ?_) ?_
  · intro m h7 d hm3 H7
    exact wp.mono (tget1_ok (by omega) H7 GD rfl) fun v h4 hq => hq
  rintro _ h7 ⟨rfl, GG, H7⟩
  rw [h0, hl] at *
  with_reducible (refine ww_neqF (by omega) ?_; refine ww_condF ?_)
  have H8 : HS g h7 (ObjC bt [.bool b] :: ObjC bx [.int .u64 x] :: ViewC v (doG M (getA root key)).2 :: ObjC bk [.int .u64 key] :: ObjC br [.int .i64 root] :: R) := HS.allE (H7.sel (P := BoxG bx bt (some (x, b))) (.there .here))
  refine ww_ldH H8 (.there .here) rfl (ww_ldH H8 .here rfl (ww_ret ⟨rfl, GG, H8.sub (.cons (.there (.there .here)) (.drop (.drop (.drop (.drop .refl)))))⟩))

/-- a number in its box -/
def BoxN (b : Nat) (o : Option Int) : SP := match o with
  | some x => ObjC b [.int .i64 x]
  | none => .ex fun x : Int => ObjC b [.int .i64 x]
theorem BoxN.I {b : Nat} {x : Int} {o : Option Int} (ho : o = none ∨ o = some x) (H : HS g h (ObjC b [.int .i64 x] :: R)) : HS g h (BoxN b o :: R) := by
  rcases ho with rfl | rfl
  · exact HS.exI x H
  · exact H
theorem tdeep1_ok {n : Nat} (hn : 2080 ≤ n) {d br bn : Nat} {P0 : SP} {D : DM} {root : Int} {sz : Nat} (H : HS g h (DrC d D :: P0 :: ObjC bn [.int .i64 0] :: ObjC br [.int .i64 root] :: R)) (G : GoodD D sz 5) (hs : D.stp = 0) :
    wp (callT tab rtab n (.fn 22 [] [.ptr br 0, .ptr bn 0]) [.ptr d 0] h) fun _ h2 => ∃ (o : Option Int) (D' : DM), EqR (runA (deepT root) D) (o, D') ∧ GoodD D' sz 10 ∧ HS g h2 (DrC d D' :: P0 :: BoxN bn o :: ObjC br [.int .i64 root] :: R) := by
  refine ww_fc (g := W22) rfl (by omega) fun k hk => ?_
  show wp (S22 (callT tab rtab k) _ _ _ _) _
  unfold S22
  try simp only [Int.ofNat_eq_natCast]
  refine ww_ldH H (.there (.there (.there .here))) rfl ?_
  refine ww_build (l := [.ptr d 0, .int .i64 root, .nils]) rfl ?_
  refine ww_boxA H rfl fun t h1 H1 => ?_
  have H1 : HS g h1 (DrC d D :: TrC t d root .nils :: P0 :: ObjC bn [.int .i64 0] :: ObjC br [.int .i64 root] :: R) := H1.sub (.cons (.there .here) (.cons .here .refl))
  refine ww_call (top_ok (α := Int) (by omega) H1 G) ?_
  rintro _ h2 ⟨a, D2, rfl, E2, A2, b2, H2⟩
  have hs2 := A2.stp
  refine ww_call (deep_ok (α := Int) (m := 2049) (by omega) H2 A2.good b2.1 ⟨b2.2.1, fun _ => by omega, by omega, fun _ => by omega, by omega⟩) ?_
  rintro _ h3 ⟨x, D3, rfl, E3, G3, Q3, b3, H3⟩
  have E4 : EqR (runA (deepT root) D) (runA (.ret x) D3) := (E2 _).trans (E3 _)
  rw [run_ret] at E4
  refine ww_st1H H3 (b := bn) (.there (.there (.there .here))) ⟨rfl, rfl⟩ (by simp) fun h4 H4 => ?_
  have H4 : HS g h4 (ObjC bn [.int .i64 x] :: DrC d D3 :: TrC t d root .nils :: P0 :: ObjC br [.int .i64 root] :: R) := H4
  exact ww_ret ⟨_, D3, E4, good_ten G3, (BoxN.I if_or (H4.sub (L' := ObjC bn [.int .i64 x] :: DrC d D3 :: P0 :: ObjC br [.int .i64 root] :: R) (.cons .here (.cons .here (.drop .refl))))).sub (.cons (.there .here) (.cons (.there .here) (.cons .here .refl)))⟩
end Go.Proofs.Ytpohfcljfemhlaa.arenaParts
